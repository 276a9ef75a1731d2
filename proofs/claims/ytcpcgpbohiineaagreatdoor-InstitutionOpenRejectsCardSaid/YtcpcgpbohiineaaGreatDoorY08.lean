import Derived.Test.YtcpcgpbohiineaaGreatDoorY04
import Derived.Test.YtcpcgpbohiineaaGreatDoorY05
import Derived.Test.YtcpcgpbohiineaaGreatDoorY06
import Derived.Test.YtcpcgpbohiineaaGreatDoorY07
namespace Go.Proofs.YtcpcgpbohiineaaGreatDoor
open Go.RowKit Go.Proofs.Tryz
set_option linter.all false
set_option maxRecDepth 100000
set_option maxHeartbeats 4000000
section
variable{q:List Tok}{W1 W2:AA}
def AEW{w:AA}{B n size:Nat}{e:TypeId}{v:AB}{D:List AB}(F:w.ownsRow B e size v n D){p:Addr}(J:some p.block≠v.ownBlock)(u:AB):(w.setCell p u).ownsRow B e size v n D:=by
 obtain⟨G,A⟩:=F;refine⟨G,?_⟩;rcases A with A|⟨C,E,cur,rfl,H,I,rest⟩
 .exact .inl A
 .exact .inr ⟨C,E,cur,rfl,H,(Lg w p u C (λe=>J (by rw[<-e];rfl))).trans I,rest⟩
def BM.next{B:Nat}{W:AA}{C:Nat}{T:A9}{v:AB}{D:Int}{k:Nat}(A:BM B W C T v D k)(E:k<T.length):BM B (W.setCell ⟨C,1,none⟩ (.int .i64 ((k:Int)+1))) C T v D (k+1):=
 ⟨by have:=A.blk.put 1 (.int .i64 ((k:Int)+1));exact this,AEW A.tok A.far _,E,A.few,A.ok,A.lo⟩
def Tr{T:A9}{k:Nat}{s:AE}(A:(AT T k).Am s=true):k<T.length:=by
 by_cases B:k<T.length
 .exact B
 .rw[kZ B] at A;cases A
structure To(B:Nat)(W W':AA)(AV:Nat)(T:A9)(v:AB)(en:Int)(k:Nat):Prop where
 rs:BM B W' AV T v en k
 kept:AP [AV] W W'
def To.trans{B:Nat}{W:AA}{A:Nat}{T:A9}{v:AB}{C:Int}{k E:Nat}(F:To B W W1 A T v C k)(D:To B W1 W2 A T v C E):To B W W2 A T v C E:=⟨D.rs,F.kept.trans D.kept⟩
def To.below{B:Nat}{W:AA}{A:Nat}{T:A9}{v:AB}{C:Int}{k:Nat}(h:To B W W1 A T v C k)(hb:Below W1 W1 W2):To B W W2 A T v C k:=⟨h.rs.below hb,h.kept.trans CX⟩
def YL(r:Ending)(B:Nat)(W:AA)(C:Nat)(T:A9)(v:AB)(D:Int)(k:Nat)(e:Ending)(A:AA):Prop:=e=r/\To B W A C T v D k
def AMM(B:Nat)(W:AA)(C:Nat)(T:A9)(v:AB)(D:Int)(k:Nat)(e:Ending)(A:AA):Prop:=e=.returned (.tuple #[])/\To B W A C T v D k
def Hu(B:Nat)(W:AA)(A:Nat)(T:A9)(v:AB)(D:Int)(k:Nat)(s:AE)(h:BM B W A T v D k)(H:MS s=true)(F:(AT T k).Am s=true):
 AI 89 #[.pointer A,.string ⟨s.toArray⟩] W (YL (.returned (.bool true)) B W A T v D (k+1)):=by
 have G:=Tr F;have E:=O (LV B W A T v D k s h H);rw[F] at E;have K:=h.few;have CM:=O h;have L:=h.blk.lt;go_in;go_wp2_with fail;go_call E.o as e W1 ⟨rfl,hb1⟩;have C:=O gF;have I:W1.cell? ⟨A,1,none⟩=some (.int .i64 (k:Int)):=C.o.blk.cell 1;have J:=C.o.blk.frozen 1;have M:=C.o.blk.lt;go_wp2;go_ret;exact⟨rfl,C.o.next G,(AP.of_below hb1).setCell AH _⟩
def GU(B:Nat)(W:AA)(A:Nat)(T:A9)(v:AB)(D:Int)(k:Nat)(s:AE)(h:BM B W A T v D k)(F:MS s=true)(E:(AT T k).Am s=false):
 AI 89 #[.pointer A,.string ⟨s.toArray⟩] W (gR false W):=by
 have C:=O (LV B W A T v D k s h F);rw[E] at C;go_in;go_wp2_with fail;go_call C.o as e W1 ⟨rfl,hb1⟩;go_wp2;go_ret;exact⟨rfl,hb1⟩
def EH(B:Nat)(W:AA)(A:Nat)(T:A9)(v:AB)(C:Int)(k:Nat)(s:AE)(h:BM B W A T v C k)(F:MS s=true)(E:(AT T k).Am s=true):
 AI 86 #[.pointer A,.string ⟨s.toArray⟩] W (AMM B W A T v C (k+1)):=by
 have D:=O (Hu B W A T v C k s h F E);go_in;go_wp2_with fail;go_call D.o as e W1 ⟨rfl,ht⟩;go_wp2;exact Lh (v:=.tuple #[]) (by simp[results,results86]) rfl ⟨rfl,ht⟩
def jQ{T:A9}{k:Nat}{C:Int}{t:AE}(h:(AT T k).l=.w C t::q):∃B:k<T.length,T[k].1=C/\T[k].2.1=t:=by
 by_cases B:k<T.length
 .rw[S8 T k B] at h;have A:=(List.cons.inj h).1;refine⟨B,?_⟩;unfold Gf KX at A;split at A
  .cases A
  .split at A
   .cases A
   .cases A;exact⟨rfl,rfl⟩
 .exact eS
def Vf{T:A9}{k:Nat}{v:EP}{C:Int}(h:(AT T k).l=.n v C::q):∃B:k<T.length,T[k].1=2/\G9 T[k].2.1=(v,C):=by
 by_cases B:k<T.length
 .rw[S8 T k B] at h;have A:=(List.cons.inj h).1;refine⟨B,?_⟩;unfold Gf KX at A;split at A
  .rename_i D;injection A with h3 h4;exact⟨D,Prod.ext h3 h4⟩
  .split at A
   .cases A
   .cases A
 .exact eS
def yv{T:A9}{k:Nat}{d:Nat}(h:(AT T k).l=.d d::q):∃B:k<T.length,T[k].1=3/\(KU (T[k].2.1.drop 1)).getD 0=d:=by
 by_cases B:k<T.length
 .rw[S8 T k B] at h;have A:=(List.cons.inj h).1;refine⟨B,?_⟩;unfold Gf KX at A;split at A
  .cases A
  .split at A
   .rename_i C;injection A with h3;exact⟨C,h3⟩
   .cases A
 .exact eS
def Kb(T:A9)(k:Nat)(A:Int):Bool:=match T[k]? with|some x=>x.1==A|none=>false
def O0(B:Nat)(W:AA)(C:Nat)(T:A9)(v:AB)(E:Int)(k:Nat)(A:Int)(h:BM B W C T v E k):
 AI 152 #[.pointer C,A] W (gR (Kb T k A) W):=by
 obtain⟨J,K,Q⟩:=h.blk.y2;have L:=h.blk.g3;have M:=h.few;by_cases D:k<T.length
 .obtain⟨N,c,rfl,F,P,S,V⟩:=h.cells D;have AC:=O (show Kb T k A=(T[k].1==A) by unfold Kb;rw[BL D]);have G:decide ((k:Int)<(T.length:Int))=true:=AM;have H:decide (k<T.length)=true:=AM;generalize T[k].2.1=X at *;generalize T[k].1=R at *;exact X8
 .obtain⟨I,c,rfl,F⟩:=h.slice;have AC:=O (show Kb T k A=false by unfold Kb;rw[List.getElem?_eq_none U]);have G:decide ((k:Int)<(T.length:Int))=false:=AM;have H:decide (k<T.length)=false:=AM;exact X8
def O1{T:A9}{k:Nat}{A:Int}(C:k<T.length)(B:T[k].1=A):Kb T k A=true:=by
 unfold Kb;rw[BL C];simpa using B
end
def BM.ALA{B:Nat}{W:AA}{A:Nat}{T:A9}{v:AB}{C:Int}{k:Nat}(D:BM B W A T v C k)(y:After W):BM B y.x A T v C k:=D.below y.h
def mi{c:UInt8}(h:HY c=true):GC c=true\/(GC c=false/\CD c=true)\/(GC c=false/\CD c=false/\c.toNat=95):=by
 unfold HY at h;cases B:GC c with
 | true=>exact .inl rfl
 | false=>
  cases A:CD c with
  | true=>exact .inr (.inl ⟨rfl,rfl⟩)
  | false=>
   rw[B,A] at h;have:=Fa c 95 U;rw[show UInt8.ofNat 95=(95:UInt8) from rfl] at this;simp only[Bool.or_self,No] at h;rw[this] at h;exact .inr (.inr ⟨rfl,rfl,Fq⟩)
def iq{l:AE}(h:SW l=true):l.length<=12/\1<=l.length/\(∀(F:0<l.length),GC l[0]=true)/\∀A (E:A<l.length),HY l[A]=true:=by
 cases l with
 | nil=>cases h
 | cons c G=>
  simp only[SW,At,CJ] at h;obtain⟨⟨B,C⟩,D⟩:=h;refine⟨D,AH,λ_=>B,λA E=>?_⟩;rcases A with _|A
  .simp[HY,B]
  .rw[DS] at C;exact C _ (Gq _)
def AG0(l:AE)(w:AA)(h:SW l=true):AI 209 #[.string ⟨l.toArray⟩] w (BX (.bool true) w):=by
 obtain⟨N,M,F,E⟩:=iq h;have G:=O E;have FB:=O (F U);clear h E F;go_in;go_wp2;go_loop [3] (λC=>∃i:Nat,i<=l.length/\C=.int .i64 (i:Int)) (λC=>l.length-(intOf C).toNat)
 case atStart=>exact⟨0,Az _,rfl⟩
 case round=>
  obtain⟨i,R,rfl⟩:=hrel;by_cases hlt:i<l.length
  .have H:decide ((i:Int)<(l.length:Int))=true:=AM;have I:decide (i<l.length)=true:=AM;have B:(ByteArray.mk l.toArray)[i]' Zt=l[i]:=rfl;rcases mi (G.o i hlt) with hl|⟨hl,A⟩|⟨hl,A,D⟩
   .rw[<-B] at hl;have A2:=O hl;clear hl B
    exact fD
   .have J:0<i:=by
     exact qv
    have K:((i:Int)==0)=false:=AM;rw[<-B] at hl A;have A2:=O hl;have HG:=O A;clear hl A B
    exact fD
   .have J:0<i:=by
     exact qv
    have K:((i:Int)==0)=false:=AM;rw[<-B] at hl A D;have A2:=O hl;have HG:=O A;have L:((((ByteArray.mk l.toArray)[i]' Zt).toNat:Int) !=95)=false:=AM;clear hl A B D;exact fD
  .have H:decide ((i:Int)<(l.length:Int))=false:=AM;have I:decide (i<l.length)=false:=AM;have P:decide ((1:Int)<=(l.length:Int))=true:=AM;have Q:decide ((l.length:Int)<=12)=true:=AM;go_wp2;exact H7
def Ts(l:AE)(w:AA)(h:FJ l=true):AI 153 #[.string ⟨l.toArray⟩] w (BX (.bool true) w):=by
 unfold FJ at h;rw[At] at h;have A:=O h.1;have B:=O (show Oz l=false by simpa using h.2);go_in;go_wp2_with (first
  | (go_at_call 209;refine(AG0 l _ A.o).mono ?_;rintro e w' ⟨rfl,rfl⟩)
  | (go_at_call 210;refine(AGg l _ B.o).mono ?_;rintro e w' ⟨rfl,rfl⟩))
 exact H7
def bo(B:Nat)(W:AA)(A:Nat)(T:A9)(v:AB)(F:Int)(k:Nat)(h:BM B W A T v F k)(m:(AT T k).name.2.bad=false):
 AI 87 #[.pointer A] W (YL (.returned (AR (AT T k).name.1)) B W A T v F (k+1)):=by
 obtain⟨_,X,q,l,o,i⟩:=Rd.WK m;rw[i];obtain⟨D,g,N⟩:=jQ l;have b:=O (O1 D g);obtain⟨E,c,rfl,AG,AJ,AQ,u⟩:=h.cells D;rw[N] at u;obtain⟨e,M,_⟩:=h.blk.y2;have AK:=h.blk.lt;have AD:=h.few;have K:=O h;have d:=O o;have Z:=O N;go_in;go_wp2_with fail;refine EZ ?_;repeat (go_big_quiet_step ((first
  | (go_at_call 152;exact Hh (b.o▸O0 B _ A T _ F k 1 (K.o.ALA _)))
  | (go_at_call 153;exact EN (Ts X _ d.o)))))
 refine Cj ?_;rintro Y ⟨⟨AS,Q⟩,r⟩;subst r;have C:=O (K.o.below Q);have y:Y.cell? ⟨A,1,none⟩=some (.int .i64 (k:Int)):=C.o.blk.cell 1;have AC:=C.o.blk.frozen 1;have AL:=C.o.blk.lt;go_wp2_with fail;refine Bn (λI=>To B W I A T (.slice E T.length c) F (k+1)/\E<I.heap.size/\I.cell? ⟨E,k*3+1,none⟩=some (AR X)) ⟨⟨C.o.next D,(AP.of_below Q).setCell AH _⟩,?_⟩ ?_
 .have AE:=C.o.next D
  obtain⟨P,w,R,_,j,_,_⟩:=C.o.cells D;have J:P=E:=by
   simp only[Km,CW,Qu] at R;exact R.1.1.symm
  subst J;refine⟨by simpa using j,?_⟩;obtain⟨G,x,S,_,_,_,V⟩:=C.o.cells D;have J:G=P:=by
   simp only[Km,CW,Qu] at S;exact S.1.1.symm
  subst J;have n:G≠A:=λf=>C.o.far (by simp[Value.ownBlock,f]);rw[Z.o] at V;rw[Th (a:=⟨G,k*3+1,none⟩) (Lg Y ⟨A,1,none⟩ _ G n)];exact V
 intro L ⟨H,hg3,q3⟩;have e:L.cell? ⟨A,0,none⟩=some (.slice E T.length c):=H.rs.blk.cell 0;have M:L.cell? ⟨A,1,none⟩=some (.int .i64 (((k+1:Nat):Int))):=H.rs.blk.cell 1;have t:IntKind.i64.wrap (((k+1:Nat):Int)-1)=(k:Int):=by rw[show((k+1:Nat):Int)-1=(k:Int) by omega];exact RC _ U
 have AM:=H.rs.blk.lt;have s:(((k+1:Nat):Int))=(k:Int)+1:=U;rw[s] at M t;have AO:(k:Int)+1-1=(k:Int):=U;have a:=O H;go_quiet (fail)
 go_wp2;go_ret;exact⟨rfl,a.o.below (Do DL _)⟩
def BM.ND{B:Nat}{W:AA}{C:Nat}{T:A9}{v:AB}{G:Int}{k:Nat}{g c:Nat}(D:BM B W C T v G k)(E:v=.slice g T.length c)(K:k<T.length):g<W.heap.size/\W.cell? ⟨g,k*3,none⟩=some (.int .i64 T[k].1)/\W.cell? ⟨g,k*3+1,none⟩=some (AR T[k].2.1)/\g≠C:=by
 obtain⟨H,N,A,_,I,L,M⟩:=D.cells K;have J:H=g:=by
  rw[E] at A;simp only[Km,CW,Qu] at A;exact A.1.1.symm
 subst J;exact⟨I,L,M,λF=>D.far (by rw[E];simp[Value.ownBlock,F])⟩
def BM.drewN{B:Nat}{W:AA}{A:Nat}{T:A9}{v:AB}{C:Int}{k:Nat}(h:BM B W A T v C k)(n:Nat):BM B (W.drewN n) A T v C k:=h.below (Do DL n)
def AF3{l:List (AE × Int)}{t:AE}{n:Int}(B:∀p∈l,0<p.2)(A:l.lookup t=some n):0<n:=by
 induction l with
 | nil=>cases A
 | cons p l D=>
  obtain⟨F,G⟩:=p;rw[List.lookup_cons] at A;split at A
  .cases A;exact B _ (D0 ..)
  .exact D (λE C=>B E (Dq _ C)) A
def AFG(A:Nat):∀p∈NP A,0<p.2:=by
 unfold NP;split
 .decide
 .split<;>decide
structure Words(t:AE)(a b c:Int):Prop where
 ha:(GD.lookup t).getD 0=a
 hb:(F5.lookup t).getD 0=b
 hc:(IS.lookup t).getD 0=c
def TL(B:Nat)(W:AA)(AV:Nat)(T:A9)(v:AB)(en:Int)(k A:Nat)(hw:1<=A/\A<=3)(h:BM B W AV T v en k)(K:((AT T k).of A).2.bad=false):
 AI 157 #[.pointer AV,A] W (YL (.returned (.int .i64 ((AT T k).of A).1)) B W AV T v en (k+1)):=by
 obtain⟨_,t,S,C,J,E,I⟩:=Rd.Qj K;rw[I];have R:=AF3 (AFG A) E;obtain⟨hk,G,H⟩:=jQ J;have GO:=O (O1 hk G);obtain⟨g,c,rfl,P,Q,U,V⟩:=h.cells hk;have L:=h.few;have CM:=O h;have ANR:=O H;have AO:=O (Words.mk (t:=t) rfl rfl rfl);obtain⟨M,N⟩:=hw;rcases A with _|_|_|_|A
 .omega
 .have D:=O (show(GD.lookup t).getD 0=C by rw[show GD.lookup t=some C from E];rfl);rw[D.o] at AO;generalize (F5.lookup t).getD 0=F at *;exact pi
 .have D:=O (show(F5.lookup t).getD 0=C by rw[show F5.lookup t=some C from E];rfl);rw[D.o] at AO;generalize (GD.lookup t).getD 0=F at *;exact pi
 .have D:=O (show(IS.lookup t).getD 0=C by rw[show IS.lookup t=some C from E];rfl);rw[D.o] at AO;generalize (GD.lookup t).getD 0=F at *;generalize (F5.lookup t).getD 0=z at *;exact uZ
 .omega
def Ji(op:Nat):Nat:=if op=18 then 1 else if op=17 then 2 else if 11<=op/\op<=16 then 4 else if op=7\/op=8 then 5 else if op=9\/op=10 then 6 else 7
def IJ(op:Nat):AE:=
 if op=7 then [43] else if op=8 then [45] else if op=9 then [42] else if op=10 then [47] else if op=11 then [60] else if op=12 then [60,61] else if op=13 then [61] else if op=14 then [60,62] else if op=15 then [62] else if op=16 then [62,61] else if op=17 then [97,110,100] else [111,114]
def b9(op:Nat)(w:AA)(A:7<=op)(B:op<=18):AI 343 #[op] w (BX (.int .i64 ((Ji op:Nat):Int)) w):=by
 exact sy
def jq(op:Nat)(w:AA)(A:7<=op)(B:op<=18):AI 344 #[op] w (BX (.string ⟨(IJ op).toArray⟩) w):=by
 exact sy
def G'(r:Rd)(n:Nat):Nat->Nat->Option Int
 | 0,_=>none
 | f+1,i=>if Ji i=n/\r.Am (IJ i)=true then some (i:Int) else G' r n f (i+1)
def AKT(r:Rd)(n:Nat)(A:n=1\/n=2\/n=4\/n=5\/n=6):r.binary n=G' r n 12 7:=by
 unfold Rd.binary;rcases A with rfl|rfl|rfl|rfl|rfl
 .simp only[G',Ji,IJ,opsL];simp
 .simp only[G',Ji,IJ,opsL];simp
 .simp only[G',Ji,IJ,opsL];simp[List.find?];cases r.Am [60]<;>cases r.Am [60,61]<;>cases r.Am [61]<;>cases r.Am [60,62]<;>cases r.Am [62]<;>cases r.Am [62,61]<;>rfl
 .simp only[G',Ji,IJ,opsL];simp[List.find?];cases r.Am [43]<;>cases r.Am [45]<;>rfl
 .simp only[G',Ji,IJ,opsL];simp[List.find?];cases r.Am [42]<;>cases r.Am [47]<;>rfl
def js(op:Nat):MS (IJ op)=true:=by
 unfold IJ;repeat (split;· rfl)
 rfl
def ANm(o:Option Int)(B:Nat)(W:AA)(C:Nat)(T:A9)(v:AB)(D:Int)(k:Nat)(e:Ending)(A:AA):Prop:=e=.returned (.int .i64 (o.getD 0))/\BM B A C T v D k/\Below W W A
def pE(B:Nat)(W:AA)(F:Nat)(T:A9)(v:AB)(I:Int)(k n:Nat)(h:BM B W F T v I k)(d:n<=7):
 AI 296 #[.pointer F,n] W (ANm (G' (AT T k) n 12 7) B W F T v I k):=by
 have V:=O h;go_in;go_wp2;go_loopw [5] (λS wr=>∃A:Nat,7<=A/\A<=19/\S=.int .i64 (A:Int)/\Below W W wr/\Hid (G' (AT T k) n 12 7=G' (AT T k) n (19-A) A)) (λS _=>19-(intOf S).toNat)
 case atStart=>exact⟨7,U,U,rfl,AN _ _,rfl⟩
 case round=>
  obtain⟨A,G,b,rfl,D,K⟩:=hrel;by_cases H:A<=18
  .have R:Hid (G' (AT T k) n (19-A) A=if Ji A=n/\(AT T k).Am (IJ A)=true then some (A:Int) else G' (AT T k) n (19-(A+1)) (A+1)):=by
    show _=_;rw[show 19-A=19-(A+1)+1 by omega,G']
   have Q:=O (V.o.below D);by_cases L:Ji A=n
   .have c:((Ji A:Nat):Int)=(n:Int):=by rw[L]
    have Y:(((Ji A:Nat):Int)==(n:Int))=true:=by simp[L]
    have P:=O L;cases X:(AT T k).Am (IJ A) with
    | true=>
     have E:=O X;go_wp2_with (first
      | (go_at_call 343;refine(b9 A _ G H).mono ?_;rintro C N ⟨rfl,rfl⟩)
      | (go_at_call 344;refine(jq A _ G H).mono ?_;rintro C N ⟨rfl,rfl⟩)
      | (go_at_call 155;refine(LV B _ F T v I k (IJ A) Q.o (js A)).mono ?_;rw[E.o];rintro C a ⟨rfl,J⟩))
     go_ret;exact⟨by rw[K.o,R.o,Ab ⟨P.o,E.o⟩];rfl,Q.o.below J,AW D J⟩
    | false=>
     have E:=O X;go_wp2_with (first
      | (go_at_call 343;refine(b9 A _ G H).mono ?_;rintro C N ⟨rfl,rfl⟩)
      | (go_at_call 344;refine(jq A _ G H).mono ?_;rintro C N ⟨rfl,rfl⟩)
      | (go_at_call 155;refine(LV B _ F T v I k (IJ A) Q.o (js A)).mono ?_;rw[E.o];rintro C a ⟨rfl,J⟩))
     go_roundw
     case rel=>exact⟨A+1,U,U,A7,AW D J,by show _=_;rw[K.o,R.o,AU (λM=>by rw[E.o] at M;exact absurd M.2 AD)]⟩
     case measure=>exact A5
   .have Y:(((Ji A:Nat):Int)==(n:Int))=false:=AM;have P:=O L;go_wp2_with (first
     | (go_at_call 343;refine(b9 A _ G H).mono ?_;rintro C N ⟨rfl,rfl⟩))
    go_roundw
    case rel=>exact⟨A+1,U,U,A7,D,by show _=_;rw[K.o,R.o,AU (λM=>P.o M.1)]⟩
    case measure=>exact A5
  .have Z:Hid (A=19):=gX;go_wp2;go_ret;exact⟨by rw[K.o,Z.o];rfl,V.o.below D,D⟩
def aM{T:A9}{k:Nat}{v:EP}{D:Int}(F:∀x∈E6 T,Jg x)(L:k<T.length)(K:T[k].1=2)(C:G9 T[k].2.1=(v,D)):Ff T[k].2.1=some (v,D)/\T[k].2.1.length<=15:=by
 have E:Jg (T[k].1,T[k].2.1):=F _ (Gr.2 ⟨T[k],Gq _,rfl⟩);rcases E with ⟨A,_⟩|⟨_,A,_⟩|⟨A,_⟩|⟨A,_⟩
 .simp only at A;omega
 .simp only at A;refine⟨?_,lN _ A⟩;unfold G9 at C;cases B:Ff T[k].2.1 with
  | some x=>rw[B] at C;simpa using C
  | none=>
   obtain⟨⟨H,I,J⟩,G⟩:=Wa.1 A;unfold Ff at B;rw[G] at B;cases B
 .simp only at A;omega
 .simp only at A;omega
def BM.kept{B:Nat}{W C:AA}{S:List Nat}{D:Nat}{T:A9}{v:AB}{E:Int}{k:Nat}(A:BM B W D T v E k)(G:AP S W C)(F:∀g t cs,AG W g t cs->t=194\/t=259->g∉S):BM B C D T v E k:=
 ⟨A.blk.kept G (F _ _ _ A.blk (.inl rfl)),Bl A.tok G (λg cs H=>F _ _ _ H (.inr rfl)),A.le,A.few,A.ok,A.lo⟩
structure Num(B:Nat)(W X:AA)(AV:Nat)(T:A9)(v:AB)(en:Int)(k pG:Nat)(n d:Int):Prop where
 rs:BM B X AV T v en k
 AJ:Below W W X
 blk:AG X pG 119 #[n,d]
 lo:W.heap.size<=pG
def Num.put{B:Nat}{W C:AA}{G:Nat}{T:A9}{v:AB}{H:Int}{k A:Nat}{n d:Int}(h:Num B W C G T v H k A n d)(F E:Int):Num B W ((C.setCell ⟨A,0,none⟩ F).setCell ⟨A,1,none⟩ E) G T v H k A F E:=by
 have K:AP [A] C ((C.setCell ⟨A,0,none⟩ F).setCell ⟨A,1,none⟩ E):=((AP.refl [A] C).setCell AH _).setCell AH _;refine⟨h.rs.kept K (λM N L J D I=>?_),(h.AJ.setCell h.lo _).setCell h.lo _,(h.blk.put 0 _).put 1 _,h.lo⟩;simp only[Aj,A',A_] at I;subst I;have:=J.same h.blk;rcases D with D|D<;>rw[D] at this<;>exact absurd this AD
def Num.ne{B:Nat}{W E:AA}{C:Nat}{T:A9}{v:AB}{G:Int}{k A:Nat}{n d:Int}(h:Num B W E C T v G k A n d):A≠C:=by
 intro F;have D:=h.blk;rw[F] at D;exact absurd (D.same h.rs.blk) AD
def Num.below{B:Nat}{W C E:AA}{G:Nat}{T:A9}{v:AB}{H:Int}{k F:Nat}{n d:Int}(A:Num B W C G T v H k F n d)(D:Below C C E):Num B W E G T v H k F n d:=
 ⟨A.rs.below D,AW A.AJ D,A.blk.below D A.blk.lt,A.lo⟩
def Num.made{B:Nat}{W A:AA}{D:Nat}{T:A9}{v:AB}{E:Int}{k:Nat}(h:BM B A D T v E k)(C:Below W W A):Num B W (A.alloc (.cells #[(),()] 119)) D T v E k A 0 0:=
 ⟨h.below C8,C.alloc C.size _,AG.new A _ _,C.size⟩
def SY(B:Nat)(W:AA)(AV:Nat)(T:A9)(v:AB)(en:Int)(k:Nat)(F E:Int)(h:BM B W AV T v en k)(Z:((AT T k).whole F E).2.bad=false):
 AI 88 #[.pointer AV,F,E] W (YL (.returned (.int .i64 ((AT T k).whole F E).1)) B W AV T v en (k+1)):=by
 obtain⟨_,x,q,V,j,s,o,U⟩:=Rd.QG Z;rw[U];obtain⟨hk,e1,Q⟩:=Vf V;obtain⟨S,r⟩:=aM h.ok hk e1 Q;have M:=O (O1 hk e1);obtain⟨g,c,rfl,i,l,AC,AD⟩:=h.cells hk;have f:=h.few;have CM:=O h;generalize a:T[k].2.1=t at *;have P:=O a;have G:=O (show Ff (ByteArray.mk t.toArray).data.toList=some (x,2) by simpa using S);have L:(ByteArray.mk t.toArray).size<=1000000000000000000:=hO;go_in;go_wp2_with fail;refine(O0 B _ AV T _ en k 2 CM.o).mono ?_;rw[M.o];rintro J W1 ⟨rfl,hb1⟩;have C:=O gF;go_wp2_with fail;refine fP ?_;refine Bn (λX=>BM B X AV T (.slice g T.length c) en k/\Below W W X/\W1.heap.size<=X.heap.size) (w0:=W1.drew) ⟨C.o.below (AN _ _).drew,hb1.drew,Bh _⟩ ?_;intro A ⟨hr2,hb2,hz2⟩;have u:=C.o.blk.lt;obtain⟨m,_,_,_⟩:=C.o.ND rfl hk;have d:A.cell? ⟨AV,0,none⟩=some (.slice g T.length c):=hr2.blk.cell 0;have e:A.cell? ⟨AV,1,none⟩=some (.int .i64 (k:Int)):=hr2.blk.cell 1;obtain⟨n,_,b,y⟩:=hr2.ND rfl hk;rw[P.o] at b;have w:=hr2.blk.lt;have H:=O hr2;repeat refine Ky ?_
 refine bH ?_ ?_
 .refine Fl ?_;intro K hK;go_at_call 154;go_call RR _ x 2 _ L G.o as J I ⟨rfl,hb4⟩;refine hK _ _ _ AK (hb4.mono hz2) ?_;have N:=O (H.o.below hb4);have R:=AW hb2 hb4;have RG:=hb4.size;repeat refine Ky ?_
  refine Fl ?_;intro K hK;refine hK _ _ _ AK fU ?_;have An:=O (Num.made N.o R);refine Bn (λX=>Num B W X AV T (.slice g T.length c) en k I 0 0) An.o ?_;intro X D;have An:=O D;obtain⟨c0,c1,f0,f1⟩:=Fb An.o.blk;have hbl:=An.o.blk.lt;refine Fl ?_;intro K hK;refine hK _ _ _ AK fT ?_;exact tk
 .refine Fl ?_;intro K hK;refine hK _ _ _ AK gD ?_;have An:=O (Num.made H.o hb2);refine Bn (λX=>Num B W X AV T (.slice g T.length c) en k A 0 0/\A.heap.size<=X.heap.size) ⟨An.o,AH⟩ ?_;intro X ⟨D,cT⟩;refine Fl ?_;intro K hK;go_at_call 154;go_call RR _ x 2 _ L G.o as J I ⟨rfl,hb4⟩;refine hK _ _ _ AK (hb4.mono gC) ?_;have An:=O (D.below hb4);repeat refine Ky ?_
  obtain⟨c0,c1,f0,f1⟩:=Fb An.o.blk;have hbl:=An.o.blk.lt;refine Fl ?_;intro K hK;refine hK _ _ _ AK gM ?_;exact tk
section
variable{e:AY}{t:TypeId}{a0 a1 a2 a3 a4 a5:AB}{P:Nat->Prop}{vs:List AB}
def QP:(prog.info? 213).map (·.size)=some 6:=AF
def GY(w:AA)(g:Nat)(u0 u1 u2 u3 u4 u5:AB):AA:=(((((w.setCell ⟨g,0,none⟩ u0).setCell ⟨g,1,none⟩ u1).setCell ⟨g,2,none⟩ u2).setCell ⟨g,3,none⟩ u3).setCell ⟨g,4,none⟩ u4).setCell ⟨g,5,none⟩ u5
section
variable {w:AA} {g:Nat} {u0 u1 u2 u3 u4 u5:AB}
def ah(A:AG w g t #[a0,a1,a2,a3,a4,a5]):AG (GY w g u0 u1 u2 u3 u4 u5) g t #[u0,u1,u2,u3,u4,u5]:=(((((A.put 0 _).put 1 _).put 2 _).put 3 _).put 4 _).put 5 _
def Vo(C:Ai P w e vs)(A:∀b,P b->b≠g):Ai P (GY w g u0 u1 u2 u3 u4 u5) e vs:=
 (((((C.set _ A).set _ A).set _ A).set _ A).set _ A).set _ A
def jw:AP [g] w (GY w g u0 u1 u2 u3 u4 u5):=
 ((((((AP.refl [g] w).setCell AH _).setCell AH _).setCell AH _).setCell AH _).setCell AH _).setCell AH _
def ag:(GY w g u0 u1 u2 u3 u4 u5).heap.size=w.heap.size:=by simp[GY]
end
def ED{w:AA}{g:Nat}(A:AG w g t #[a0,a1,a2,a3,a4,a5]):
 (w.cell? ⟨g,0,none⟩=some a0/\w.cell? ⟨g,1,none⟩=some a1/\w.cell? ⟨g,2,none⟩=some a2/\w.cell? ⟨g,3,none⟩=some a3/\w.cell? ⟨g,4,none⟩=some a4/\w.cell? ⟨g,5,none⟩=some a5)
 /\(w.frozen? ⟨g,0,none⟩=false/\w.frozen? ⟨g,1,none⟩=false/\w.frozen? ⟨g,2,none⟩=false/\w.frozen? ⟨g,3,none⟩=false/\w.frozen? ⟨g,4,none⟩=false/\w.frozen? ⟨g,5,none⟩=false):=
 ⟨⟨A.cell 0,A.cell 1,A.cell 2,A.cell 3,A.cell 4,A.cell 5⟩,A.frozen 0,A.frozen 1,A.frozen 2,A.frozen 3,A.frozen 4,A.frozen 5⟩
def SG(B:Nat)(W:AA)(AV:Nat)(T:A9)(v:AB)(en:Int)(r:AY × Rd)(e:Ending)(A:AA):Prop:=
 ∃(k:Nat) (vs:List AB),e=.returned (.agg vs.toArray)/\Ai (λg=>W.heap.size<=g) A r.1 vs/\To B W A AV T v en k/\AT T k=r.2
structure DJ(B:Nat)(W X:AA)(AV:Nat)(T:A9)(v:AB)(en:Int)(k b:Nat):Prop where
 st:To B W X AV T v en k
 res:AG X b 213 #[(),(),(),(),.string .empty,AL]
 lo:W.heap.size<=b
section
variable {B:Nat} {W X Y:AA} {AV:Nat} {T:A9} {v:AB} {en:Int} {k k' b:Nat}
def DJ.start(h:BM B W AV T v en k):DJ B W (W.alloc (.cells #[(),(),(),(),.string .empty,AL] 213)) AV T v en k W.heap.size:=
 ⟨⟨h.below C8,AP.of_below C8⟩,AG.new W _ _,Bh _⟩
def DJ.call(h:DJ B W X AV T v en k b)(D:To B X Y AV T v en k'):DJ B W Y AV T v en k' b:=
 ⟨h.st.trans D,h.res.kept D.kept (λC=>by
  simp only[Aj,A',A_] at C;have A:=h.res;rw[C] at A;exact absurd (A.same h.st.rs.blk) AD),h.lo⟩
def DJ.below(A:DJ B W X AV T v en k b)(C:Below X X Y):DJ B W Y AV T v en k b:=⟨A.st.below C,A.res.below C A.res.lt,A.lo⟩
def DJ.size(A:DJ B W X AV T v en k b):W.heap.size<=X.heap.size:=A.st.kept.size
def DJ.next(h:DJ B W X AV T v en k b)(A:k<T.length):DJ B W (X.setCell ⟨AV,1,none⟩ (.int .i64 ((k:Int)+1))) AV T v en (k+1) b:=
 h.call ⟨h.st.rs.next A,(AP.refl _ _).setCell AH _⟩
def IH(h:Ai P X e vs)(D:BM B X AV T v en k)(E:To B X Y AV T v en k'):Ai P Y e vs:=
 h.kept E.kept (λg F _ C A=>by
  simp only[Aj,A',A_] at A;subst A;exact absurd (C.same D.blk) AD)
def Gp{g t:Nat}{cs:Array AB}(A:AG X g t cs)(E:BM B X AV T v en k)(F:To B X Y AV T v en k')(D:t≠194):AG Y g t cs:=
 A.kept F.kept (λC=>by
  simp only[Aj,A',A_] at C;subst C;exact D (A.same E.blk))
def DJ.done(h:DJ B W X AV T v en k b){u0 u1 u2 u3 u4 u5:AB}(A:Ai (λg=>W.heap.size<=g/\g≠b) X e [u0,u1,u2,u3,u4,u5]):
 Ai (λg=>W.heap.size<=g) (GY X b u0 u1 u2 u3 u4 u5) e [u0,u1,u2,u3,u4,u5]/\To B W (GY X b u0 u1 u2 u3 u4 u5) AV T v en k/\AG (GY X b u0 u1 u2 u3 u4 u5) b 213 #[u0,u1,u2,u3,u4,u5]:=by
 refine⟨(Vo A (λg hg=>hg.2)).mono (λg hg=>hg.1),⟨?_,?_⟩,ah h.res⟩
 .exact sU
 .exact su
end
end
def M3(f:Nat):Prop:=∀(B:Nat) (F:Nat) (C:AA) (D:Nat) (A:A9) (H:AB) (G:Int) (E:Nat),B<=7->BM F C D A H G E->(pp f (.ex B) (AT A E)).2.bad=false->
 AI 217 #[.pointer D,B] C (SG F C D A H G (pp f (.ex B) (AT A E)))
def Za(f:Nat):Prop:=∀(E:Nat) (B:AA) (C:Nat) (A:A9) (G:AB) (F:Int) (D:Nat),BM E B C A G F D->(pp f .Kg (AT A D)).2.bad=false->
 AI 295 #[.pointer C] B (SG E B C A G F (pp f .Kg (AT A D)))
def iJ(f:Nat):Prop:=∀(A:Nat) (F:Nat) (D:AA) (E:Nat) (B:A9) (H:AB) (G:Int) (C:Nat),(A=6\/A=19\/A=20)->C<B.length->BM F D E B H G C->(pp f (.call A) (AT B C)).2.bad=false->
 AI 342 #[.pointer E,A] D (SG F D E B H G (pp f (.call A) (AT B C)))
def AIA{f:Nat}{T:A9}{k:Nat}{x:EP}{A:Int}{q:List Tok}(B:(AT T k).l=.n x A::q):pp (f+1) .Kg (AT T k)=(.lit x A,AT T (k+1)):=by
 rw[<-Cw];have C:(AT T k).bad=false:=rfl;rw[pp];simp only[C,B]
def AGf{T:A9}{k:Nat}(h:Kb T k 2=true):∃x A q,(AT T k).l=.n x A::q:=by
 unfold Kb at h;split at h
 .rename_i D C;obtain⟨B,rfl⟩:=Cd.1 C;rw[S8 T k B];have:T[k].1=2:=Fq;refine⟨(G9 T[k].2.1).1,(G9 T[k].2.1).2,((E6 T).drop (k+1)).map Gf,?_⟩;unfold Gf KX;rw[Ab this]
 .cases h
def AH_{f:Nat}{T:A9}{k:Nat}(A:Kb T k 2=false):pp (f+1) .Kg (AT T k) =
 (if (AT T k).Am [45] then (.un 4 (pp f (.ex 7) (AT T k).AX).1,(pp f (.ex 7) (AT T k).AX).2)
 else if (AT T k).Am [40] then ((pp f (.ex 0) (AT T k).AX).1,(pp f (.ex 0) (AT T k).AX).2.want [41])
 else if (AT T k).Am [98,101,115,116] then (.EY (((AT T k).AX.want [40]).whole 1 45).1,(((AT T k).AX.want [40]).whole 1 45).2.want [41])
 else if (AT T k).Am [102,108,111,111,114] then pp f (.call 6) (AT T k)
 else if (AT T k).Am [109,105,110] then pp f (.call 19) (AT T k)
 else if (AT T k).Am [109,97,120] then pp f (.call 20) (AT T k)
 else (.name (AT T k).name.1,(AT T k).name.2)):=by
 rw[pp];split
 .rename_i G E F _ D;obtain⟨C,B,_⟩:=Vf D;rw[O1 C B] at A;cases A
 .rfl
abbrev QC:Array AB:=#[.int .i64 0,.int .i64 0,.int .i64 0,.int .i64 0,.string .empty,AL]
def Num.res{B:Nat}{W A:AA}{E:Nat}{T:A9}{v:AB}{G:Int}{k C b:Nat}{n d:Int}(h:Num B W A E T v G k C n d)(H:AG A b 213 QC):C≠b:=by
 intro F;have D:=h.blk;rw[F] at D;exact absurd (D.same H) AD
def AH8(f:Nat)(B:Nat)(W:AA)(AV:Nat)(T:A9)(v:AB)(en:Int)(k:Nat)(x:EP)(Ey:Int)(q:List Tok)(h:BM B W AV T v en k)(L:(AT T k).l=.n x Ey::q):
 AI 295 #[.pointer AV] W (SG B W AV T v en (pp (f+1) .Kg (AT T k))):=by
 rw[AIA L];obtain⟨hk,e1,Z⟩:=Vf L;obtain⟨d,w⟩:=aM h.ok hk e1 Z;have Q:=O (O1 hk e1);obtain⟨g,c,rfl,o,r,AJ,AM⟩:=h.cells hk;have n:=h.few;have j:=O h;generalize i:T[k].2.1=t at *;have V:=O i;have F:=O (show Ff (ByteArray.mk t.toArray).data.toList=some (x,Ey) by simpa using d);have N:(ByteArray.mk t.toArray).size<=1000000000000000000:=hO;have H:=O (DJ.start h);go_in;go_wp2_with fail;refine(O0 B _ AV T _ en k 2 H.o.st.rs).mono ?_;rw[Q.o];rintro e W1 ⟨rfl,J⟩;have P:=H.o.below J;have a:Below W W W1:=((AN _ _).alloc AK _).trans (J.mono AH);have C:=O P.st.rs;have S:=O P.res;go_wp2_with fail;refine fP ?_;refine Bn (λX=>BM B X AV T (.slice g T.length c) en k/\Below W W X/\W1.heap.size<=X.heap.size/\AG X W 213 QC) (w0:=W1.drew) ⟨C.o.below (AN _ _).drew,a.drew,Bh _,S.o.drew⟩ ?_;intro A ⟨hr2,hb2,hz2,hs2⟩;have y:=C.o.blk.lt;obtain⟨s,_,_,_⟩:=C.o.ND rfl hk;have l:A.cell? ⟨AV,0,none⟩=some (.slice g T.length c):=hr2.blk.cell 0;have m:A.cell? ⟨AV,1,none⟩=some (.int .i64 (k:Int)):=hr2.blk.cell 1;obtain⟨u,_,r1,AE⟩:=hr2.ND rfl hk;rw[V.o] at r1;have AC:=hr2.blk.lt;have G:=O hr2;have D:=O hs2;repeat refine Ky ?_
 refine bH ?_ ?_
 .refine Fl ?_;intro K hK;go_at_call 154;go_call RR _ x Ey _ N F.o as e I ⟨rfl,hb4⟩;refine hK _ _ _ AK (hb4.mono hz2) ?_;have R:=O (G.o.below hb4);have U:=O (D.o.below hb4 D.o.lt);have b:=AW hb2 hb4;have RG:=hb4.size;repeat refine Ky ?_
  refine Fl ?_;intro K hK;refine hK _ _ _ AK fU ?_;have An:=O (Num.made R.o b);refine Bn (λX=>Num B W X AV T (.slice g T.length c) en k I 0 0/\AG X W 213 QC) ⟨An.o,U.o.alloc _⟩ ?_;intro X E;have An:=O E;obtain⟨c0,c1,f0,f1⟩:=Fb An.o.1.blk;have hbl:=An.o.1.blk.lt;refine Fl ?_;intro K hK;refine hK _ _ _ AK fT ?_;exact uD
 .refine Fl ?_;intro K hK;refine hK _ _ _ AK gD ?_;have An:=O (Num.made G.o hb2);refine Bn (λX=>(Num B W X AV T (.slice g T.length c) en k A 0 0/\AG X W 213 QC)/\A.heap.size<=X.heap.size) ⟨⟨An.o,D.o.alloc _⟩,AH⟩ ?_;intro X ⟨⟨E,M⟩,cT⟩;refine Fl ?_;intro K hK;go_at_call 154;go_call RR _ x Ey _ N F.o as e I ⟨rfl,hb4⟩;refine hK _ _ _ AK (hb4.mono gC) ?_;have An:=O (And.intro (E.below hb4) (M.below hb4 M.lt));repeat refine Ky ?_
  obtain⟨c0,c1,f0,f1⟩:=Fb An.o.1.blk;have hbl:=An.o.1.blk.lt;refine Fl ?_;intro K hK;refine hK _ _ _ AK gM ?_;exact uD
def Ai.BS{P:Nat->Prop}{w:AA}{e:AY}{A:List AB}(J:Ai P w e A):∃(C D E F:Int) (G:AE) (H:BH) (n c:Nat),A=[.int .i64 C,.int .i64 D,.int .i64 E,.int .i64 F,AR G,.slice H n c]:=by
 obtain⟨B,c,M,o,O,rfl,_⟩:=J.inv;obtain⟨n,K,L,N,I⟩:=e.RK (.slice B e.kids.length c);exact⟨_,_,_,_,_,_,_,_,I⟩
def DJ.put{B:Nat}{W X:AA}{A:Nat}{T:A9}{v:AB}{C:Int}{k b:Nat}(h:DJ B W X A T v C k b)(u0 u1 u2 u3 u4 u5:AB):
 To B W (GY X b u0 u1 u2 u3 u4 u5) A T v C k/\AG (GY X b u0 u1 u2 u3 u4 u5) b 213 #[u0,u1,u2,u3,u4,u5]:=by
 refine⟨⟨?_,?_⟩,ah h.res⟩
 .exact sU
 .exact su
def dh(w:AA)(t:TypeId)(l:List AB)(g:Nat)(A:g=w.heap.size):Cells (w.alloc (.cells l.toArray t)) t g 0 l:=
 ⟨l.toArray,AG.newAt _ _ _ _ A,λC B=>by simp⟩
attribute [local irreducible] World.setCell in
def AH'(f:Nat)(Am:M3 f)(Al:iJ f):Za (f+1):=by
 intro E W G A D H B h Ao;cases AQ:Kb A B 2 with
 | true=>
  obtain⟨As,A1,Af,A3⟩:=AGf AQ;exact AH8 f E W G A D H B As A1 Af h A3
 | false=>
  have C:=AH_ (f:=f) AQ;rw[Cw] at C;have Au:=O AQ;have AO:=O (DJ.start h);have Ah:=O Am;have Ad:=O Al;generalize pp (f+1) .Kg (AT A B)=BB at *;have a:=O Ao;have F:=O C;clear Ao C;obtain⟨A0,c,rfl,BG⟩:=h.slice;clear AQ h Am Al;generalize Value.slice A0 A.length c=D at *;go_in;go_wp2_with fail;refine(O0 E _ G A D H B 2 AO.o.st.rs).mono ?_;rw[Au.o];rintro I BC ⟨rfl,An⟩;replace AO:=O (AO.o.below An);clear An;go_wp2_with fail;cases k:(AT A B).Am [45] with
  | true=>
   have AY:=O k;have C:=F.o;rw[k,Ab rfl] at C;subst C;clear k F;refine(Hu E _ G A D H B [45] AO.o.st.rs rfl AY.o).mono ?_;rintro I Ak ⟨rfl,d⟩;replace AO:=O (AO.o.call d);clear d;go_wp2_with fail;refine(Ah.o 7 E _ G A D H (B+1) (by omega) AO.o.st.rs a.o).mono ?_;rintro I K ⟨X,AX,rfl,htr,J,T⟩;have AV:=AO.o.size;have AS:=AO.o.res.lt;replace AO:=O (AO.o.call J);have A4:=J.kept.size;obtain⟨L,M,N,P,R,S,an,ac,rfl⟩:=htr.BS;have Hp:=O Uo;have IB:=O T;clear J htr T;obtain⟨⟨t,u,v,w,x,y⟩,z,AB,AC,AE,AF,AH⟩:=ED AO.o.res;have n:=AO.o.res.lt;go_wp2_with fail;obtain⟨U,V⟩:=AO.o.put (.int .i64 4) () () () (.string .empty) (.slice K 1 1);have hal:∀(Z:AA) (o:Obj),Below Z Z (Z.alloc o):=λZ o=>(AN _ _).alloc AK _;have BA:=Ai.un (op:=4) vi (g:=K.heap.size) (by omega)
    (dh (GY K W (.int .i64 4) () () () (.string .empty) (.slice K 1 1)) 213 [.int .i64 L,.int .i64 M,.int .i64 N,.int .i64 P,AR R,.slice S an ac] K ag.symm) (Bh 1)
   exact BE (v:=.agg #[.int .i64 4,(),(),(),.string .empty,.slice K 1 1]) (Ja results295 _ _ W 213 _ (0,0) _ rfl (V.alloc _) underlying213 rfl QP) rfl ⟨X,[.int .i64 4,.int .i64 0,.int .i64 0,.int .i64 0,.string .empty,.slice K 1 1],rfl,BA,U.below (hal _ _),IB.o⟩
  | false=>
   have AY:=O k;have C:=F.o;rw[k,AU AD] at C;have F:=O C;clear k C;refine(GU E _ G A D H B [45] AO.o.st.rs rfl AY.o).mono ?_;rintro I b ⟨rfl,Fe⟩;replace AO:=O Fn;clear Fe;go_wp2_with fail;cases j:(AT A B).Am [40] with
   | true=>
    have AZ:=O j;have C:=F.o;rw[j,Ab rfl] at C;subst C;clear j F;obtain⟨e,i,s⟩:=Rd.EC a.o;have Q1:=O e;have N5:=O s;have Av:=O i;clear e i s;refine(Hu E _ G A D H B [40] AO.o.st.rs rfl AZ.o).mono ?_;rintro I Ak ⟨rfl,d⟩;replace AO:=O (AO.o.call d);clear d;go_wp2_with fail;refine(Ah.o 0 E _ G A D H (B+1) (by omega) AO.o.st.rs Av.o).mono ?_;rintro I K ⟨X,AX,rfl,htr,J,T⟩;have AV:=AO.o.size;have AS:=AO.o.res.lt;replace AO:=O (AO.o.call J);have A4:=J.kept.size;obtain⟨L,M,N,P,R,S,an,ac,rfl⟩:=htr.BS;have Hp:=O Uo;have IB:=O T;have Ax:Hid ((AT A X).Am [41]=true):=Zn;have Az:Hid (AT A (X+1)=(pp f (.ex 0) (AT A (B+1))).2.want [41]):=Zo;clear J htr T;go_wp2_with fail;have hal:∀(Z:AA) (o:Obj),Below Z Z (Z.alloc o):=λZ o=>(AN _ _).alloc AK _;replace AO:=O (AO.o.below (hal K (.cells #[L,M,N,P,AR R,.slice S an ac] 213)));have Ac:=O (AG.new K 213 #[L,M,N,P,AR R,.slice S an ac]);replace Hp:=O (Hp.o.stay (hal K (.cells #[L,M,N,P,AR R,.slice S an ac] 213)));have BF:W.heap.size≠K.heap.size:=by omega
    refine(EH E _ G A D H X [41] AO.o.st.rs rfl Ax.o).mono ?_;rintro I Ae ⟨rfl,Y⟩;replace Hp:=O (IH Hp.o AO.o.st.rs Y);replace Ac:=O (Gp Ac.o AO.o.st.rs Y AD);replace AO:=O (AO.o.call Y);clear Y;obtain⟨⟨t,u,v,w,x,y⟩,z,AB,AC,AE,AF,AH⟩:=ED AO.o.res;have n:=AO.o.res.lt;obtain⟨⟨BI,BJ,BK,BL,BM,BN⟩,_⟩:=ED Ac.o;go_wp2_with fail;obtain⟨U,V,t3⟩:=AO.o.done Hp.o;exact BE (v:=.agg #[L,M,N,P,AR R,.slice S an ac]) Pv rfl ⟨X+1,[.int .i64 L,.int .i64 M,.int .i64 N,.int .i64 P,AR R,.slice S an ac],rfl,U,V,Az.o⟩
   | false=>
    have AZ:=O j;have C:=F.o;rw[j,AU AD] at C;have F:=O C;clear j C;refine(GU E _ G A D H B [40] AO.o.st.rs rfl AZ.o).mono ?_;rintro I b ⟨rfl,Fe⟩;replace AO:=O Fn;clear Fe;go_wp2_with fail;cases l:(AT A B).Am [98,101,115,116] with
    | true=>
     have Aa:=O l;have C:=F.o;rw[l,Ab rfl] at C;subst C;clear l F;obtain⟨e,i,s⟩:=Rd.EC a.o;obtain⟨Ar,As,Af,A7,A8,A9,A_,Ag⟩:=Rd.QG i;obtain⟨Aq,A5,AW⟩:=Rd.EC Ar;rw[Cw] at AW;rw[AW] at e i s Ag;have AP:=Ag;rw[Cw] at AP;have Aw:=O Aq;have Ay:=O i;have Q1:Hid ((AT A (B+1+1+1)).Am [41]=true):=by rw[AP] at e;exact e
     have N5:Hid (AT A (B+1+1+1+1)=(((AT A (B+1+1)).whole 1 45).2.want [41])):=by show _=_;rw[s,AP,Cw]
     have Aj:=O AW;clear e i s Ar A7 A8 A9 A_ Ag Aq A5 AW AP;refine(Hu E _ G A D H B [98,101,115,116] AO.o.st.rs rfl Aa.o).mono ?_;rintro I Ak ⟨rfl,d⟩;replace AO:=O (AO.o.call d);clear d;go_wp2_with fail;refine(EH E _ G A D H (B+1) [40] AO.o.st.rs rfl Aw.o).mono ?_;rintro I K ⟨rfl,J⟩;replace AO:=O (AO.o.call J);clear J;go_wp2_with fail;refine(SY E _ G A D H (B+1+1) 1 45 AO.o.st.rs Ay.o).mono ?_;rintro I BD ⟨rfl,Ap⟩;replace AO:=O (AO.o.call Ap);clear Ap;go_wp2_with fail;refine(EH E _ G A D H (B+1+1+1) [41] AO.o.st.rs rfl Q1.o).mono ?_;rintro I Ae ⟨rfl,Y⟩;replace AO:=O (AO.o.call Y);clear Y;obtain⟨⟨t,u,v,w,x,y⟩,z,AB,AC,AE,AF,AH⟩:=ED AO.o.res;have n:=AO.o.res.lt;go_wp2_with fail;obtain⟨U,V,t3⟩:=AO.o.done (e:=.EY ((AT A (B+1+1)).whole 1 45).1) (u0:=.int .i64 3) (u1:=.int .i64 ((AT A (B+1+1)).whole 1 45).1) (u2:=.int .i64 1) (u3:=.int .i64 0) (u4:=.string .empty) (u5:=.slice none 0 0) ZB;have A':Ai (λg=>W.heap.size<=g) (GY Ae W (.int .i64 3) (.int .i64 ((AT A (B+1+1)).whole 1 45).1) (.int .i64 1) () (.string .empty) AL) (.EY (((AT A (B+1)).want [40]).whole 1 45).1) [.int .i64 3,.int .i64 ((AT A (B+1+1)).whole 1 45).1,.int .i64 1,.int .i64 0,.string .empty,AL]:=by
      rw[Aj.o];exact U
     have A6:AT A (B+1+1+1+1)=((((AT A (B+1)).want [40]).whole 1 45).2.want [41]):=by
      rw[Aj.o];exact N5.o
     exact BE (v:=.agg #[.int .i64 3,.int .i64 ((AT A (B+1+1)).whole 1 45).1,.int .i64 1,(),.string .empty,AL]) Pv rfl ⟨B+1+1+1+1,[.int .i64 3,.int .i64 ((AT A (B+1+1)).whole 1 45).1,.int .i64 1,.int .i64 0,.string .empty,AL],rfl,A',V,A6⟩
    | false=>
     have Aa:=O l;have C:=F.o;rw[l,AU AD] at C;have F:=O C;clear l C;refine(GU E _ G A D H B [98,101,115,116] AO.o.st.rs rfl Aa.o).mono ?_;rintro I b ⟨rfl,Fe⟩;replace AO:=O Fn;clear Fe;go_wp2_with fail;cases m:(AT A B).Am [102,108,111,111,114] with
     | true=>
      have AI:=O m;have C:=F.o;rw[m,Ab rfl] at C;clear m;refine(LV E _ G A D H B [102,108,111,111,114] AO.o.st.rs rfl).mono ?_;rw[AI.o];rintro I b ⟨rfl,Fe⟩;replace AO:=O Fn;clear Fe;go_wp2_with fail;subst C;clear F;refine(Ad.o 6 E _ G A D H B (by omega) (Tr AI.o) AO.o.st.rs a.o).mono ?_;rintro I K ⟨X,AX,rfl,htr,J,T⟩;have AV:=AO.o.size;have AS:=AO.o.res.lt;replace AO:=O (AO.o.call J);obtain⟨L,M,N,P,R,S,an,ac,rfl⟩:=htr.BS;have Hp:=O Uo;have IB:=O T;clear J htr T;obtain⟨⟨t,u,v,w,x,y⟩,z,AB,AC,AE,AF,AH⟩:=ED AO.o.res;have n:=AO.o.res.lt;go_wp2_with fail;obtain⟨U,V,t3⟩:=AO.o.done Hp.o;exact BE (v:=.agg #[L,M,N,P,AR R,.slice S an ac]) Pv rfl ⟨X,[.int .i64 L,.int .i64 M,.int .i64 N,.int .i64 P,AR R,.slice S an ac],rfl,U,V,IB.o⟩
     | false=>
      have AI:=O m;have C:=F.o;rw[m,AU AD] at C;have F:=O C;clear m C;refine(LV E _ G A D H B [102,108,111,111,114] AO.o.st.rs rfl).mono ?_;rw[AI.o];rintro I b ⟨rfl,Fe⟩;replace AO:=O Fn;clear Fe;go_wp2_with fail;cases r:(AT A B).Am [109,105,110] with
      | true=>
       have AJ:=O r;have C:=F.o;rw[r,Ab rfl] at C;clear r;refine(LV E _ G A D H B [109,105,110] AO.o.st.rs rfl).mono ?_;rw[AJ.o];rintro I b ⟨rfl,Fe⟩;replace AO:=O Fn;clear Fe;go_wp2_with fail;subst C;clear F;refine(Ad.o 19 E _ G A D H B (by omega) (Tr AJ.o) AO.o.st.rs a.o).mono ?_;rintro I K ⟨X,AX,rfl,htr,J,T⟩;have AV:=AO.o.size;have AS:=AO.o.res.lt;replace AO:=O (AO.o.call J);obtain⟨L,M,N,P,R,S,an,ac,rfl⟩:=htr.BS;have Hp:=O Uo;have IB:=O T;clear J htr T;obtain⟨⟨t,u,v,w,x,y⟩,z,AB,AC,AE,AF,AH⟩:=ED AO.o.res;have n:=AO.o.res.lt;go_wp2_with fail;obtain⟨U,V,t3⟩:=AO.o.done Hp.o;exact BE (v:=.agg #[L,M,N,P,AR R,.slice S an ac]) Pv rfl ⟨X,[.int .i64 L,.int .i64 M,.int .i64 N,.int .i64 P,AR R,.slice S an ac],rfl,U,V,IB.o⟩
      | false=>
       have AJ:=O r;have C:=F.o;rw[r,AU AD] at C;have F:=O C;clear r C;refine(LV E _ G A D H B [109,105,110] AO.o.st.rs rfl).mono ?_;rw[AJ.o];rintro I b ⟨rfl,Fe⟩;replace AO:=O Fn;clear Fe;go_wp2_with fail;cases q:(AT A B).Am [109,97,120] with
       | true=>
        have AM:=O q;have C:=F.o;rw[q,Ab rfl] at C;clear q;refine(LV E _ G A D H B [109,97,120] AO.o.st.rs rfl).mono ?_;rw[AM.o];rintro I b ⟨rfl,Fe⟩;replace AO:=O Fn;clear Fe;go_wp2_with fail;subst C;clear F;refine(Ad.o 20 E _ G A D H B (by omega) (Tr AM.o) AO.o.st.rs a.o).mono ?_;rintro I K ⟨X,AX,rfl,htr,J,T⟩;have AV:=AO.o.size;have AS:=AO.o.res.lt;replace AO:=O (AO.o.call J);obtain⟨L,M,N,P,R,S,an,ac,rfl⟩:=htr.BS;have Hp:=O Uo;have IB:=O T;clear J htr T;obtain⟨⟨t,u,v,w,x,y⟩,z,AB,AC,AE,AF,AH⟩:=ED AO.o.res;have n:=AO.o.res.lt;go_wp2_with fail;obtain⟨U,V,t3⟩:=AO.o.done Hp.o;exact BE (v:=.agg #[L,M,N,P,AR R,.slice S an ac]) Pv rfl ⟨X,[.int .i64 L,.int .i64 M,.int .i64 N,.int .i64 P,AR R,.slice S an ac],rfl,U,V,IB.o⟩
       | false=>
        have AM:=O q;have C:=F.o;rw[q,AU AD] at C;subst C;clear q F;refine(LV E _ G A D H B [109,97,120] AO.o.st.rs rfl).mono ?_;rw[AM.o];rintro I b ⟨rfl,Fe⟩;replace AO:=O Fn;clear Fe;go_wp2_with fail;have At:Hid (AT A (B+1)=(AT A B).name.2):=by
         obtain⟨_,BH,Af,_,_,A2⟩:=Rd.WK a.o;show _=_;rw[A2,Cw]
        refine(bo E _ G A D H B AO.o.st.rs a.o).mono ?_;rintro I Ae ⟨rfl,Y⟩;replace AO:=O (AO.o.call Y);clear Y;obtain⟨⟨t,u,v,w,x,y⟩,z,AB,AC,AE,AF,AH⟩:=ED AO.o.res;have n:=AO.o.res.lt;go_wp2_with fail;obtain⟨U,V,t3⟩:=AO.o.done (e:=.name (AT A B).name.1) (u0:=.int .i64 2) (u1:=.int .i64 0) (u2:=.int .i64 0) (u3:=.int .i64 0) (u4:=AR (AT A B).name.1) (u5:=.slice none 0 0) ZB;exact BE (v:=.agg #[.int .i64 2,(),(),(),AR (AT A B).name.1,AL]) Pv rfl ⟨B+1,[.int .i64 2,.int .i64 0,.int .i64 0,.int .i64 0,AR (AT A B).name.1,AL],rfl,U,V,At.o⟩
section
variable{B AV k:Nat}{W:AA}{T:A9}{v:AB}{en:Int}
def pT(op:Nat)(w:AA)(h:op=6\/op=19\/op=20):AI 346 #[op] w (BX (.int .i64 (if op=6 then 1 else 2)) w):=by
 rcases h with rfl|rfl|rfl<;>
  (go_in;go_wp2;go_ret;exact⟨AZ,rfl⟩)
def DJ.Fy{A:AA}{b c:Nat}{cs:Array AB}(h:DJ B W A AV T v en k b)(H:AG A c 213 cs)(L:W.heap.size<=c)(I:c≠b)(o:Nat)(u:AB):DJ B W (A.setCell ⟨c,o,none⟩ u) AV T v en k b:=by
 have C:AP [c] A (A.setCell ⟨c,o,none⟩ u):=(AP.refl [c] A).setCell AH _;refine⟨⟨h.st.rs.kept C (λE M cs J hty F=>?_),?_⟩,h.res.far (Ne.symm I) u,h.lo⟩
 .simp only[Aj,A',A_] at F;subst F;have:=J.same H;exact qF
 .have D:=h.st.kept;refine⟨C.os.trans D.os,C.tape.trans D.tape,C.output.trans D.output,Ap D.size C.size,λE G K=>?_⟩;exact(C.block E (Co G D.size) AM).trans (D.block E G K)
def DJ.je(h:BM B W AV T v en k)(A:k<T.length):DJ B W ((W.setCell ⟨AV,1,none⟩ (.int .i64 ((k:Int)+1))).alloc (.cells #[(),(),(),(),.string .empty,AL] 213)) AV T v en (k+1) W.heap.size:=
 ⟨⟨(h.next A).below C8,((AP.refl _ _).setCell AH _).alloc _⟩,AG.newAt _ _ _ _ AH,Bh _⟩
def ADL(f:Nat)(op:Int)(r:Rd):pp (f+1) (.call op) r=(if op=6 then (.un 6 (pp f (.ex 0) (r.AX.want [40])).1,(pp f (.ex 0) (r.AX.want [40])).2.want [41])
 else (.bin op (pp f (.ex 0) (r.AX.want [40])).1 (pp f (.ex 0) ((pp f (.ex 0) (r.AX.want [40])).2.want [44])).1,(pp f (.ex 0) ((pp f (.ex 0) (r.AX.want [40])).2.want [44])).2.want [41])):=by
 rw[pp]
def AKG(f:Nat)(BO:M3 f):iJ (f+1):=by
 intro D B W AV T v en k BU Av h Aw;have Y:=ADL f D (AT T k);rw[Cw] at Y;have N:=O h;have AE:=O BO;have B5:=h.few;obtain⟨BJ,c,rfl,B6⟩:=h.slice;generalize Value.slice BJ T.length c=v at *;generalize pp (f+1) (.call D) (AT T k)=B0 at *;by_cases BN:D=6
 .subst BN;rw[Ab (show((6:Nat):Int)=6 from rfl)] at Y;subst Y;obtain⟨j,V,l⟩:=Rd.EC Aw;obtain⟨Ag,Bb,S⟩:=Rd.EC (NN V);rw[Cw] at S;rw[S] at j V l;have Q1:=O j;have AM:=O V;have N5:=O l;have AJ:=O Ag;have X:=O S;go_in;have BL:=N.o.blk.g1;have BM:=N.o.blk.frozen 1;have BT:=N.o.blk.lt;go_wp2_with fail;have A:=O (DJ.je N.o Av);go_call EH B _ AV T v en (k+1) [40] A.o.st.rs rfl AJ.o as M X2 ⟨rfl,ht2⟩;replace A:=O (A.o.call ht2);go_wp2_with fail;go_call AE.o 0 B _ AV T v en (k+1+1) U A.o.st.rs AM.o as M C ⟨k3,vs,rfl,htr,e,hr3⟩;have BY:=A.o.size;have BR:=A.o.res.lt;replace A:=O (A.o.call e);have BZ:=e.kept.size;obtain⟨F,G,H,I,J,K,an,ac,rfl⟩:=htr.BS;have AI:=O Mv;have IB:=O hr3;have AL:Hid ((AT T k3).Am [41]=true):=Zn;have Lw:Hid (AT T (k3+1)=(pp f (.ex 0) (AT T (k+1+1))).2.want [41]):=Zo;go_wp2_with fail;have R:∀(L:AA) (o:Obj),Below L L (L.alloc o):=λL o=>(AN _ _).alloc AK _;have Z:Below C C ((C.alloc (.cells #[F,G,H,I,AR J,.slice K an ac] 213)).alloc (.cells #[.int .i64 6,(),(),(),.string .empty,.slice C 1 1] 213)):=(R _ _).trans ((R _ _).mono (by simp));have s:=O ((dh C 213 [.int .i64 F,.int .i64 G,.int .i64 H,.int .i64 I,AR J,.slice K an ac] C rfl).below (R _ (.cells #[.int .i64 6,(),(),(),.string .empty,.slice C 1 1] 213)));have y:Hid _:=AG.newAt (C.alloc (.cells #[F,G,H,I,AR J,.slice K an ac] 213)) (C.heap.size+1) 213 #[.int .i64 6,(),(),(),.string .empty,.slice C 1 1] (by simp);have AH:=O (Ai.un (op:=6) (AI.o.stay Z) (g:=C.heap.size) ⟨U,U⟩ s.o (Bh 1));replace A:=O (A.o.below Z);have Au:W.heap.size≠C.heap.size+1:=U;go_wp2_with (go_at_call 346;refine(pT 6 _ (.inl rfl)).mono ?_;rintro M Bq ⟨rfl,rfl⟩)
  go_call EH B _ AV T v en k3 [41] A.o.st.rs rfl AL.o as M Ar ⟨rfl,P⟩;replace AH:=O (IH AH.o A.o.st.rs P);have A1:=O (Gp y.o A.o.st.rs P AD);replace A:=O (A.o.call P);obtain⟨⟨Bc,Bd,Be,Bf,Bg,Bi⟩,Bj,Bk,Bl,Bm,Bo,Bp⟩:=ED A.o.res;have BS:=A.o.res.lt;obtain⟨⟨Ak,Al,Am,An,Ao,Ap⟩,_⟩:=ED A1.o;go_wp2_with fail;obtain⟨x,Ah,t3⟩:=A.o.done AH.o;exact BE (v:=.agg #[.int .i64 6,(),(),(),.string .empty,.slice C 1 1]) vW rfl ⟨k3+1,[.int .i64 6,.int .i64 0,.int .i64 0,.int .i64 0,.string .empty,.slice C 1 1],rfl,(X.o.symm▸x),Ah,(X.o.symm▸Lw.o)⟩
 .rw[AU (show ¬((D:Nat):Int)=6 by omega)] at Y;subst Y;obtain⟨As,AO,At⟩:=Rd.EC Aw;obtain⟨j,V,l⟩:=Rd.EC (NN AO);obtain⟨Ag,Bb,S⟩:=Rd.EC (NN V);rw[Cw] at S;rw[S] at j V l As AO At;have Ay:=O As;have B2:=O AO;have A0:=O At;have Q1:=O j;have AM:=O V;have N5:=O l;have AJ:=O Ag;have X:=O S;have A6:=O BU;have CA:19<=D:=U;have CC:D<=20:=U;go_in;have BL:=N.o.blk.g1;have BM:=N.o.blk.frozen 1;have BT:=N.o.blk.lt;go_wp2_with fail;have A:=O (DJ.je N.o Av);go_call EH B _ AV T v en (k+1) [40] A.o.st.rs rfl AJ.o as M X2 ⟨rfl,ht2⟩;replace A:=O (A.o.call ht2);go_wp2_with fail;go_call AE.o 0 B _ AV T v en (k+1+1) U A.o.st.rs AM.o as M C ⟨k3,vs,rfl,htr,e,hr3⟩;have BY:=A.o.size;have BR:=A.o.res.lt;replace A:=O (A.o.call e);have BZ:=e.kept.size;obtain⟨F,G,H,I,J,K,an,ac,rfl⟩:=htr.BS;have AI:=O Mv;have IB:=O hr3;have AL:Hid ((AT T k3).Am [44]=true):=Zn;have Lw:Hid (AT T (k3+1)=(pp f (.ex 0) (AT T (k+1+1))).2.want [44]):=Zo;go_wp2_with fail;have R:∀(L:AA) (o:Obj),Below L L (L.alloc o):=λL o=>(AN _ _).alloc AK _;have Z:Below C C ((C.alloc (.cells #[F,G,H,I,AR J,.slice K an ac] 213)).alloc (.cells #[D,(),(),(),.string .empty,.slice C 1 1] 213)):=(R _ _).trans ((R _ _).mono (by simp));have A5:=O ((AG.new C 213 #[F,G,H,I,AR J,.slice K an ac]).alloc (.cells #[D,(),(),(),.string .empty,.slice C 1 1] 213));have y:Hid _:=AG.newAt (C.alloc (.cells #[F,G,H,I,AR J,.slice K an ac] 213)) (C.heap.size+1) 213 #[D,(),(),(),.string .empty,.slice C 1 1] (by simp);have A7:=O ((AI.o.old.mono (Q:=λg=>W.heap.size<=g/\g≠W.heap.size/\g≠C.heap.size+1) (λg hg=>⟨hg.1.1,hg.1.2,by have:=hg.2;omega⟩)).stay Z);replace A:=O (A.o.below Z);have Au:W.heap.size≠C.heap.size+1:=U;go_wp2_with (go_at_call 346;refine(pT D _ A6.o).mono ?_;rintro M Bq ⟨rfl,rfl⟩;rw[AU (show ¬D=6 by omega)])
  go_call EH B _ AV T v en k3 [44] A.o.st.rs rfl AL.o as M Ar ⟨rfl,P⟩;have A9:=O (IH A7.o A.o.st.rs P);have AB:=O (Gp y.o A.o.st.rs P AD);have A4:=O (Gp A5.o A.o.st.rs P AD);replace A:=O (A.o.call P);go_wp2_with fail;refine uS ?_;refine Bn (λt=>DJ B W t AV T v en (k3+1) W.heap.size/\Ai (λg=>W.heap.size<=g/\g≠W.heap.size/\g≠C.heap.size+1) t (pp f (.ex 0) (AT T (k+1+1))).1 [.int .i64 F,.int .i64 G,.int .i64 H,.int .i64 I,AR J,.slice K an ac]
   /\AG t (C.heap.size+1) 213 #[D,(),(),(),.string .empty,.slice C 1 1]/\AG t C 213 #[F,G,H,I,AR J,.slice K an ac]) (w0:=Ar.drew) ⟨A.o.below (AN _ _).drew,A9.o.stay (AN _ _).drew,AB.o.drew,A4.o.drew⟩ ?_
  intro B3 ⟨Ae,BW,a,w⟩;obtain⟨⟨Ak,Al,Am,An,Ao,Ap⟩,Br,Bs,Bu,Bv,Bw,Bx⟩:=ED a;obtain⟨⟨CF,CG,CH,CI,CJ,CK⟩,_⟩:=ED w;have B7:=a.lt;have B8:=w.lt;have B_:C.heap.size+1∉[AV]:=λd=>by
   simp only[Aj,A',A_] at d;rw[d] at a;exact absurd (a.same Ae.st.rs.blk) AD
  have B':C.heap.size∉[AV]:=λd=>by
   simp only[Aj,A',A_] at d;rw[d] at w;exact absurd (w.same Ae.st.rs.blk) AD
  have A:=O Ae;have BA:=O BW;have AB:=O a;iterate 5 refine H' ?_
  refine FU ?_;intro By BP;go_simp;go_at_call 217;have BX:Hid ((pp f (.ex 0) (AT T (k3+1))).2.bad=false):=wE;go_call AE.o 0 B _ AV T v en (k3+1) U A.o.st.rs BX.o as M E ⟨k7,vs2,rfl,Ax,i,BV⟩;refine BP _ _ i.kept ?_;obtain⟨AQ,AS,AW,AX,AY,Aa,Ac,AZ,rfl⟩:=Ax.BS;have CE:=i.kept.size;have Aq:=O BV;have BB:=O (IH BA.o A.o.st.rs i);have AC:=O (Gp AB.o A.o.st.rs i AD);have CD:=A.o.size;replace A:=O (A.o.call i);have BF:=O (Ax.mono (Q:=λg=>W.heap.size<=g/\g≠W.heap.size/\g≠C.heap.size+1) (λg hg=>⟨U,U,U⟩));refine FU ?_;intro Bz BQ;go_simp;refine BQ _ _ N_ ?_;iterate 1 refine H' ?_
  refine KT ?_;have u:=R E (.cells #[F,G,H,I,AR J,.slice K an ac,AQ,AS,AW,AX,AR AY,.slice Aa Ac AZ] 213);have s:=O (AG.new E 213 #[F,G,H,I,AR J,.slice K an ac,AQ,AS,AW,AX,AR AY,.slice Aa Ac AZ]);have r:=O (AC.o.below u AC.o.lt);have BC:=O (BB.o.stay u);have BG:=O (BF.o.stay u);replace A:=O (A.o.below u);have B9:=r.o.lt;have Ba:W.heap.size<=E.heap.size/\C.heap.size+1<E.heap.size:=⟨U,AC.o.lt⟩;obtain⟨⟨Ak,Al,Am,An,Ao,Ap⟩,Br,Bs,Bu,Bv,Bw,Bx⟩:=ED r.o;generalize E.alloc (.cells #[F,G,H,I,AR J,.slice K an ac,AQ,AS,AW,AX,AR AY,.slice Aa Ac AZ] 213)=BI at *;go_wp2_with fail;have BD:=O ((Ai.bin (op:=(D:Int)) BC.o BG.o (g:=E.heap.size) (c:=2) (o:=0) ⟨Ba.1,U,U⟩ ⟨_,s.o,λAf b=>by simp only[CB,EE] at b;match Af,b with|0,_=>rfl|1,_=>rfl|2,_=>rfl|3,_=>rfl|4,_=>rfl|5,_=>rfl⟩
   ⟨_,s.o,λAf b=>by simp only[CB,EE] at b;match Af,b with|0,_=>rfl|1,_=>rfl|2,_=>rfl|3,_=>rfl|4,_=>rfl|5,_=>rfl⟩ AK).set (p:=⟨C.heap.size+1,5,none⟩) (.slice E 2 2) (λg hg=>hg.2.2))
  have A2:=O (r.o.put 5 (.slice E 2 2));replace A:=O (A.o.Fy r.o U (Ne.symm Au) 5 (.slice E 2 2));generalize BI.setCell ⟨C.heap.size+1,5,none⟩ (.slice E 2 2)=B4 at *;have Az:Hid ((AT T k7).Am [41]=true):=by show _=_;rw[Aq.o,Lw.o];exact Ay.o
  go_call EH B _ AV T v en k7 [41] A.o.st.rs rfl Az.o as M B1 ⟨rfl,Ad⟩;have BH:=O (IH BD.o A.o.st.rs Ad);have A3:=O (Gp A2.o A.o.st.rs Ad AD);replace A:=O (A.o.call Ad);obtain⟨⟨Bc,Bd,Be,Bf,Bg,Bi⟩,Bj,Bk,Bl,Bm,Bo,Bp⟩:=ED A.o.res;have BS:=A.o.res.lt;obtain⟨⟨Ak,Al,Am,An,Ao,Ap⟩,_⟩:=ED A3.o;go_wp2_with fail;obtain⟨x,Ah,t3⟩:=A.o.done (BH.o.mono gB);have hF:AT T (k7+1)=((pp f (.ex 0) ((pp f (.ex 0) ((AT T (k+1)).want [40])).2.want [44])).2.want [41]):=by
   rw[X.o,A0.o,<-Cw,Aq.o,Lw.o]
  rw[Lw.o,<-X.o] at x;exact BE (v:=.agg #[D,(),(),(),.string .empty,.slice E 2 2]) vW rfl ⟨k7+1,[.int .i64 (D:Int),.int .i64 0,.int .i64 0,.int .i64 0,.string .empty,.slice E 2 2],rfl,x,Ah,hF⟩
end
def V_(f n:Nat)(r:Rd)(A:r.bad=false):pp (f+1) (.ex n) r=(if n=0 then
 if r.Am [105,102] then
  (.ite (pp f (.ex 0) r.AX).1 (pp f (.ex 0) ((pp f (.ex 0) r.AX).2.want Nz)).1 (pp f (.ex 0) ((pp f (.ex 0) ((pp f (.ex 0) r.AX).2.want Nz)).2.want [101,108,115,101])).1,(pp f (.ex 0) ((pp f (.ex 0) ((pp f (.ex 0) r.AX).2.want Nz)).2.want [101,108,115,101])).2)
 else pp f (.ex 1) r
 else if n=3 then
  if r.Am [110,111,116] then (.un 5 (pp f (.ex 3) r.AX).1,(pp f (.ex 3) r.AX).2)
  else pp f (.ex 4) r
 else if n=7 then pp f .Kg r
 else pp f (.lp n (pp f (.ex (n+1)) r).1) (pp f (.ex (n+1)) r).2):=by
 rw[pp];simp only[A,DW,DV]
def BM.bad{B:Nat}{W:AA}{A:Nat}{T:A9}{v:AB}{D:Int}{k:Nat}(E:BM B W A T v D k):W.cell? ⟨A,3,none⟩=some (.bool false):=by
 have C:=E.blk.cell 3;simpa using C
def Zg(n f:Nat):Prop:=∀(E:Nat) (B:AA) (C:Nat) (A:A9) (G:AB) (F:Int) (D:Nat),BM E B C A G F D->(pp f (.ex n) (AT A D)).2.bad=false->
 AI 217 #[.pointer C,n] B (SG E B C A G F (pp f (.ex n) (AT A D)))
def AIH(f:Nat)(Y:Za f):Zg 7 (f+1):=by
 intro L W V C K X D h Z;have B:=V_ f 7 (AT C D) rfl;rw[Cw] at B;rw[AU AD,AU AD,Ab rfl] at B;have j:=h.bad;have n:=h.blk.lt;have A:=O (DJ.start h);have M:=O Y;obtain⟨T,c,rfl,k⟩:=h.slice;generalize Value.slice T C.length c=K at *;generalize pp (f+1) (.ex 7) (AT C D)=i at *;have N:=O Z;have R:=O B;go_in;go_wp2_with fail;have B:=R.o;subst B;go_call M.o L _ V C K X D A.o.st.rs N.o as e W3 ⟨k3,vs,rfl,htr,a,hr3⟩;have o:=A.o.size;have l:=A.o.res.lt;replace A:=O (A.o.call a);obtain⟨E,F,G,H,I,J,an,ac,rfl⟩:=htr.BS;have S:=O Mv;have P:=O hr3;obtain⟨⟨q,r,s,t,u,v⟩,w,x,y,z,AA,AB⟩:=ED A.o.res;have m:=A.o.res.lt;go_wp2_with fail;obtain⟨b,d,t3⟩:=A.o.done S.o;exact BE (v:=.agg #[E,F,G,H,AR I,.slice J an ac]) Ut rfl ⟨k3,[.int .i64 E,.int .i64 F,.int .i64 G,.int .i64 H,AR I,.slice J an ac],rfl,b,d,P.o⟩
attribute [local irreducible] World.setCell in
def AIF(f:Nat)(j:M3 f):Zg 3 (f+1):=by
 intro I W S B H T D h k;have A:=V_ f 3 (AT B D) rfl;rw[Cw] at A;rw[AU AD,Ab rfl] at A;have n:=h.bad;have s:=h.blk.lt;have AO:=O (DJ.start h);have d:=O j;obtain⟨m,c,rfl,AQ⟩:=h.slice;clear h j;generalize Value.slice m B.length c=H at *;generalize pp (f+1) (.ex 3) (AT B D)=AL at *;have e:=O k;have i:=O A;clear k A;go_in;go_wp2_with fail;clear n s;have A:=i.o;clear i;cases E:(AT B D).Am [110,111,116] with
 | true=>
  have V:=O E;rw[E,Ab rfl] at A;subst A;clear E;refine(Hu I _ S B H T D [110,111,116] AO.o.st.rs rfl V.o).mono ?_;rintro Y AM ⟨rfl,l⟩;replace AO:=O (AO.o.call l);clear l;go_wp2_with fail;refine(d.o 3 I _ S B H T (D+1) U AO.o.st.rs e.o).mono ?_;rintro Y C ⟨Z,AJ,rfl,htr,F,G⟩;have t:=AO.o.size;have q:=AO.o.res.lt;replace AO:=O (AO.o.call F);have AS:=F.kept.size;obtain⟨K,L,M,N,P,R,an,ac,rfl⟩:=htr.BS;have Hp:=O Mv;have X:=O G;clear F htr G;obtain⟨⟨u,v,w,x,y,z⟩,AB,AC,AE,AF,AG,AH⟩:=ED AO.o.res;have r:=AO.o.res.lt;go_wp2_with fail;obtain⟨a,b⟩:=AO.o.put (.int .i64 5) () () () (.string .empty) (.slice C 1 1);have hal:∀(J:AA) (o:Obj),Below J J (J.alloc o):=λJ o=>(AN _ _).alloc AK _;have AI:=Ai.un (op:=5) vi (g:=C.heap.size) U
   (dh (GY C W (.int .i64 5) () () () (.string .empty) (.slice C 1 1)) 213 [.int .i64 K,.int .i64 L,.int .i64 M,.int .i64 N,AR P,.slice R an ac] C ag.symm) (Bh 1)
  exact BE (v:=.agg #[.int .i64 5,(),(),(),.string .empty,.slice C 1 1]) (Ja results217 _ _ W 213 _ (0,0) _ rfl (b.alloc _) underlying213 rfl QP) rfl ⟨Z,[.int .i64 5,.int .i64 0,.int .i64 0,.int .i64 0,.string .empty,.slice C 1 1],rfl,AI,a.below (hal _ _),X.o⟩
 | false=>
  have V:=O E;rw[E,AU AD] at A;clear E;refine(GU I _ S B H T D [110,111,116] AO.o.st.rs rfl V.o).mono ?_;rintro Y AP ⟨rfl,Fe⟩;replace AO:=O Fn;clear Fe;go_wp2_with fail;subst A;refine(d.o 4 I _ S B H T D U AO.o.st.rs e.o).mono ?_;rintro Y C ⟨Z,AJ,rfl,htr,F,G⟩;have t:=AO.o.size;have q:=AO.o.res.lt;replace AO:=O (AO.o.call F);obtain⟨K,L,M,N,P,R,an,ac,rfl⟩:=htr.BS;have Hp:=O Mv;have X:=O G;clear F htr G;obtain⟨⟨u,v,w,x,y,z⟩,AB,AC,AE,AF,AG,AH⟩:=ED AO.o.res;have r:=AO.o.res.lt;go_wp2_with fail;obtain⟨a,b,t3⟩:=AO.o.done Hp.o;exact BE (v:=.agg #[K,L,M,N,AR P,.slice R an ac]) Ut rfl ⟨Z,[.int .i64 K,.int .i64 L,.int .i64 M,.int .i64 N,AR P,.slice R an ac],rfl,a,b,X.o⟩
attribute [local irreducible] World.setCell in
def AIE(f:Nat)(AP:M3 f):Zg 0 (f+1):=by
 intro P W Y A N Z L h AQ;have M:=V_ f 0 (AT A L) rfl;rw[Cw] at M;rw[Ab rfl] at M;have Ap:=h.bad;have Ar:=h.blk.lt;have AO:=O (DJ.start h);have x:=O AP;obtain⟨Ao,c,rfl,A'⟩:=h.slice;clear h AP;generalize Value.slice Ao A.length c=N at *;generalize pp (f+1) (.ex 0) (AT A L)=A5 at *;have AE:=O AQ;have AM:=O M;clear AQ M;go_in;go_wp2_with fail;clear Ap Ar;have M:=AM.o;clear AM;cases i:(AT A L).Am [105,102] with
 | true=>
  have AC:=O i;rw[i,Ab rfl] at M;subst M;clear i;obtain⟨G,F,H⟩:=Rd.EC (NN AE.o);obtain⟨AX,AZ,Aa⟩:=Rd.EC (NN F);have Ad:=O G;have B2:=O F;have Ag:=O H;have Q1:=O AX;have An:=O AZ;have N5:=O Aa;clear AX AZ Aa G F H;have hal:∀(y:AA) (o:Obj),Below y y (y.alloc o):=λy o=>(AN _ _).alloc AK _;refine(Hu P _ Y A N Z L [105,102] AO.o.st.rs rfl AC.o).mono ?_;rintro K A6 ⟨rfl,AS⟩;replace AO:=O (AO.o.call AS);clear AS;go_wp2_with fail;refine(x.o 0 P _ Y A N Z (L+1) U AO.o.st.rs An.o).mono ?_;rintro K Hi ⟨d,j,rfl,htr,B,I⟩;have AH:=AO.o.size;have AF:=AO.o.res.lt;have AV:=B.kept.size;obtain⟨a0,a1,a2,a3,a4,ad,an,ac,rfl⟩:=htr.BS;have D:=O Mv;have IB:=O I;have Am:Hid ((AT A d).Am [116,104,101,110]=true):=Zn;have Lw:Hid (AT A (d+1)=(pp f (.ex 0) (AT A (L+1))).2.want [116,104,101,110]):=Zo;replace AO:=O (AO.o.call B);clear B htr I;go_wp2_with fail;replace AO:=O vV;have C:=O (AG.new Hi 213 #[a0,a1,a2,a3,AR a4,.slice ad an ac]);replace D:=O (D.o.stay (hal Hi (.cells #[a0,a1,a2,a3,AR a4,.slice ad an ac] 213)));refine(EH P _ Y A N Z d [116,104,101,110] AO.o.st.rs rfl Am.o).mono ?_;rintro K A9 ⟨rfl,J⟩;replace D:=O (IH D.o AO.o.st.rs J);replace C:=O (Gp C.o AO.o.st.rs J AD);replace AO:=O (AO.o.call J);clear J;go_wp2_with fail;have Af:Hid ((pp f (.ex 0) (AT A (d+1))).2.bad=false):=wE;refine(x.o 0 P _ Y A N Z (d+1) U AO.o.st.rs Af.o).mono ?_;rintro K k ⟨w,j,rfl,htr,B,I⟩;have AH:=AO.o.size;have AF:=AO.o.res.lt;have AV:=B.kept.size;obtain⟨R,G,F,H,S,V,X,T,rfl⟩:=htr.BS;have b:=O Mv;have AL:=O I;replace D:=O (IH D.o AO.o.st.rs B);replace C:=O (Gp C.o AO.o.st.rs B AD);have Ae:Hid ((AT A w).Am [101,108,115,101]=true):=by show _=_;rw[AL.o,Lw.o];exact Ad.o
  have z:Hid (AT A (w+1)=(pp f (.ex 0) ((pp f (.ex 0) (AT A (L+1))).2.want [116,104,101,110])).2.want [101,108,115,101]):=by show _=_;rw[Ag.o,<-Cw,AL.o,Lw.o]
  replace AO:=O (AO.o.call B);clear B htr I;go_wp2_with fail;replace AO:=O (AO.o.below (hal k (.cells #[R,G,F,H,AR S,.slice V X T] 213)));have e:=O (AG.new k 213 #[R,G,F,H,AR S,.slice V X T]);replace b:=O (b.o.stay (hal k (.cells #[R,G,F,H,AR S,.slice V X T] 213)));replace D:=O (D.o.stay (hal k (.cells #[R,G,F,H,AR S,.slice V X T] 213)));replace C:=O (C.o.below (hal k (.cells #[R,G,F,H,AR S,.slice V X T] 213)) C.o.lt);refine(EH P _ Y A N Z w [101,108,115,101] AO.o.st.rs rfl Ae.o).mono ?_;rintro K A_ ⟨rfl,J⟩;replace D:=O (IH D.o AO.o.st.rs J);replace C:=O (Gp C.o AO.o.st.rs J AD);replace b:=O (IH b.o AO.o.st.rs J);replace e:=O (Gp e.o AO.o.st.rs J AD);replace AO:=O (AO.o.call J);clear J;go_wp2_with fail;have Al:Hid ((pp f (.ex 0) (AT A (w+1))).2.bad=false):=by show _=_;rw[z.o];exact AE.o
  refine(x.o 0 P _ Y A N Z (w+1) U AO.o.st.rs Al.o).mono ?_;rintro K E ⟨AW,j,rfl,htr,B,I⟩;have AH:=AO.o.size;have AF:=AO.o.res.lt;have AV:=B.kept.size;obtain⟨l,m,n,q,r,t,u,s,rfl⟩:=htr.BS;have Aj:=O Mv;have Ah:=O I;replace D:=O (IH D.o AO.o.st.rs B);replace C:=O (Gp C.o AO.o.st.rs B AD);replace b:=O (IH b.o AO.o.st.rs B);replace e:=O (Gp e.o AO.o.st.rs B AD);replace AO:=O (AO.o.call B);clear B htr I;obtain⟨⟨At,Au,Av,Aw,Ax,Ay⟩,Az,A0,A1,A2,A3,A4⟩:=ED AO.o.res;have Aq:=AO.o.res.lt;obtain⟨⟨BD,BF,BG,BH,BI,BJ⟩,_⟩:=ED C.o;obtain⟨⟨BK,BL,BM,BN,BO,BP⟩,_⟩:=ED e.o;have BA:=C.o.lt;have BB:=e.o.lt;go_wp2_with fail;obtain⟨AI,AJ⟩:=AO.o.put (.int .i64 21) () () () (.string .empty) (.slice (some ⟨E.heap.size+1,0,none⟩) 3 3);have As:(GY E W (.int .i64 21) () () () (.string .empty) (.slice (some ⟨E.heap.size+1,0,none⟩) 3 3)).heap.size=E.heap.size:=ag;have st:∀{K:AY} {j:List AB},Ai (λg=>W.heap.size<=g/\g≠W.heap.size) E K j->Ai (λg=>W.heap.size<=g) (((GY E W (.int .i64 21) () () () (.string .empty) (.slice (some ⟨E.heap.size+1,0,none⟩) 3 3)).alloc (.cells #[l,m,n,q,AR r,.slice t u s] 213)).alloc
   (.cells #[a0,a1,a2,a3,AR a4,.slice ad an ac,R,G,F,H,AR S,.slice V X T,l,m,n,q,AR r,.slice t u s] 213)) K j:=
   λh=>(((Vo h (λg hg=>hg.2)).stay (hal _ _)).stay (hal _ _)).mono (λg hg=>hg.1)
  have hg:AG (((GY E W (.int .i64 21) () () () (.string .empty) (.slice (some ⟨E.heap.size+1,0,none⟩) 3 3)).alloc (.cells #[l,m,n,q,AR r,.slice t u s] 213)).alloc
   (.cells #[a0,a1,a2,a3,AR a4,.slice ad an ac,R,G,F,H,AR S,.slice V X T,l,m,n,q,AR r,.slice t u s] 213)) (E.heap.size+1) 213
    #[a0,a1,a2,a3,AR a4,.slice ad an ac,R,G,F,H,AR S,.slice V X T,l,m,n,q,AR r,.slice t u s]:=
   AG.newAt _ _ _ _ (by simp[As])
  have Ac:=Ai.ite (st D.o) (st b.o) (st Aj.o) (g:=E.heap.size+1) (c:=3) (o:=0) U ⟨_,hg,λv a=>by simp only[CB,EE] at a;match v,a with|0,_=>rfl|1,_=>rfl|2,_=>rfl|3,_=>rfl|4,_=>rfl|5,_=>rfl⟩ ⟨_,hg,λv a=>by simp only[CB,EE] at a;match v,a with|0,_=>rfl|1,_=>rfl|2,_=>rfl|3,_=>rfl|4,_=>rfl|5,_=>rfl⟩ ⟨_,hg,λv a=>by simp only[CB,EE] at a;match v,a with|0,_=>rfl|1,_=>rfl|2,_=>rfl|3,_=>rfl|4,_=>rfl|5,_=>rfl⟩ AK;have BC:=AO.o.size;have hF:AT A AW=(pp f (.ex 0) ((pp f (.ex 0) ((pp f (.ex 0) (AT A (L+1))).2.want [116,104,101,110])).2.want [101,108,115,101])).2:=by rw[Ah.o,z.o]
  rw[Lw.o,z.o] at Ac;exact BE (v:=.agg #[.int .i64 21,(),(),(),.string .empty,.slice (some ⟨E.heap.size+1,0,none⟩) 3 3]) (Ja results217 _ _ W 213 _ (0,0) _ rfl ((AJ.alloc _).alloc _) underlying213 rfl QP) rfl ⟨AW,[.int .i64 21,.int .i64 0,.int .i64 0,.int .i64 0,.string .empty,.slice (some ⟨E.heap.size+1,0,none⟩) 3 3],rfl,Ac,(AI.below (hal _ _)).below (hal _ _),hF⟩
 | false=>
  have AC:=O i;rw[i,AU AD] at M;clear i;refine(GU P _ Y A N Z L [105,102] AO.o.st.rs rfl AC.o).mono ?_;rintro K A8 ⟨rfl,Fe⟩;replace AO:=O Fn;clear Fe;go_wp2_with fail;subst M;refine(x.o 1 P _ Y A N Z L U AO.o.st.rs AE.o).mono ?_;rintro K A7 ⟨d,j,rfl,htr,B,I⟩;have AH:=AO.o.size;have AF:=AO.o.res.lt;replace AO:=O (AO.o.call B);obtain⟨a0,a1,a2,a3,a4,ad,an,ac,rfl⟩:=htr.BS;have Ak:=O Mv;have IB:=O I;clear B htr I;obtain⟨⟨At,Au,Av,Aw,Ax,Ay⟩,Az,A0,A1,A2,A3,A4⟩:=ED AO.o.res;have Aq:=AO.o.res.lt;go_wp2_with fail;obtain⟨AI,AJ,t3⟩:=AO.o.done Ak.o;exact BE (v:=.agg #[a0,a1,a2,a3,AR a4,.slice ad an ac]) Ut rfl ⟨d,[.int .i64 a0,.int .i64 a1,.int .i64 a2,.int .i64 a3,AR a4,.slice ad an ac],rfl,AI,AJ,IB.o⟩
def ADJ(f n:Nat)(e:AY)(r:Rd)(A:r.bad=false)(B:n=1\/n=2\/n=4\/n=5\/n=6):pp (f+1) (.lp n e) r=(match G' r n 12 7 with
 | none=>(e,r)
 | some op=>if n=4 then (.bin op e (pp f (.ex (n+1)) r.AX).1,(pp f (.ex (n+1)) r.AX).2) else pp f (.lp n (.bin op e (pp f (.ex (n+1)) r.AX).1)) (pp f (.ex (n+1)) r.AX).2):=by
 rw[pp,<-AKT r n B];simp only[A,DW,DV];cases r.binary n<;>rfl
def pF(r:Rd)(n:Nat):∀(m i:Nat) (op:Int),G' r n m i=some op->∃j:Nat,op=(j:Int)/\i<=j/\j<i+m/\r.Am (IJ j)=true
 | 0,i,op,h=>by cases h
 | m+1,i,op,h=>by
  rw[G'] at h;split at h
  .rename_i C;exact⟨i,(Ld h).symm,Bh _,U,C.2⟩
  .obtain⟨j,A,D,E,B⟩:=pF r n m (i+1) op h;exact⟨j,A,U,U,B⟩
def DJ.IP{B:Nat}{W E:AA}{F:Nat}{T:A9}{v:AB}{G:Int}{k b c:Nat}{H I J K L M:AB}(N:DJ B W E F T v G k b)(C:AG E c 213 #[H,I,J,K,L,M])(A:W.heap.size<=c)(D:c≠b)(u0 u1 u2 u3 u4 u5:AB):
 DJ B W (GY E c u0 u1 u2 u3 u4 u5) F T v G k b:=
 (((((N.Fy C A D 0 u0).Fy (C.put 0 u0) A D 1 u1).Fy ((C.put 0 u0).put 1 u1) A D 2 u2).Fy (((C.put 0 u0).put 1 u1).put 2 u2) A D 3 u3).Fy ((((C.put 0 u0).put 1 u1).put 2 u2).put 3 u3) A D 4 u4).Fy (((((C.put 0 u0).put 1 u1).put 2 u2).put 3 u3).put 4 u4) A D 5 u5
def AMW(B:Nat)(W:AA)(M:Nat)(T:A9)(v:AB)(N:Int)(n f:Nat)(D:AY × Rd)(b C:Nat)(wr:AA):Prop:=
 ∃(L:Nat) (K:AY) (E F G H:Int) (I:AE) (J:BH) (an ac:Nat),DJ B W wr M T v N L W.heap.size/\AG wr b 213 #[E,F,G,H,AR I,.slice J an ac]
  /\Ai (λA=>W.heap.size<=A/\A≠W.heap.size/\A≠b) wr K [.int .i64 E,.int .i64 F,.int .i64 G,.int .i64 H,AR I,.slice J an ac]/\C<=f/\W.heap.size<b/\Hid (D=pp C (.lp n K) (AT T L))/\Hid (D.2.bad=false)
attribute [local irreducible] World.setCell in
def AII(f n:Nat)(BG:n=1\/n=2\/n=4\/n=5\/n=6)(A6:∀g,g<=f->M3 g):Zg n (f+1):=by
 intro V W AV A T X k h BA;have Ac:=V_ f n (AT A k) rfl;rw[AU U,AU U,AU U] at Ac;have s:=h.bad;have Y:=h.blk.lt;have AO:=O (DJ.start h);have Au:=O A6;have BV:=O BG;have B5:((n:Int)==0)=false:=AM;have B6:((n:Int)==3)=false:=AM;have B7:((n:Int)==7)=false:=AM;have CF:n<=6:=U;obtain⟨Ba,c,rfl,B_⟩:=h.slice;clear h A6 BG;generalize Value.slice Ba A.length c=T at *;generalize pp (f+1) (.ex n) (AT A k)=A4 at *;have a:=O BA;have Aw:=O Ac;clear BA Ac;go_in;go_wp2_with fail;clear s Y;have v:Hid ((pp f (.ex (n+1)) (AT A k)).2.bad=false):=by
  have:=a.o;rw[Aw.o] at this;exact NN this
 refine(Au.o f R8 (n+1) V _ AV A T X k U AO.o.st.rs v.o).mono ?_;rintro AZ Hi ⟨Bo,CJ,rfl,Ag,Af,BH⟩;have Bk:=AO.o.size;have Bg:=AO.o.res.lt;have Bl:=Af.kept.size;obtain⟨a0,a1,a2,a3,a4,ad,an,ac,rfl⟩:=Ag.BS;have hal:∀(r:AA) (o:Obj),Below r r (r.alloc o):=λr o=>(AN _ _).alloc AK _;have D:=O ((Ag.old.mono (Q:=λg=>W.heap.size<=g/\g≠W.heap.size/\g≠Hi.heap.size) (λg hg=>⟨U,U,by have:=hg.2;omega⟩)).stay (hal Hi (.cells #[a0,a1,a2,a3,AR a4,.slice ad an ac] 213)));have B:=O (AG.new Hi 213 #[a0,a1,a2,a3,AR a4,.slice ad an ac]);replace AO:=O (AO.o.call Af);have BW:=O BH;replace AO:=O vV;have BB:W.heap.size<Hi.heap.size:=U;clear Af Ag BH;go_wp2_with fail;go_loopg [9] f (λBT _ wr=>AMW V W AV A T X n f A4 Hi BT wr)
 case atStart=>
  exact⟨Bo,_,a0,a1,a2,a3,a4,ad,an,ac,AO.o,B.o,D.o,Bh _,BB,by show _=_;rw[Aw.o,BW.o],a⟩
 case round=>
  clear AO B D Bk Bg Bl v;obtain⟨C,t,H,I,J,K,L,N,P,M,hw,BC,BJ,B9,_,Ad,_⟩:=hrel;have AO:=O hw;have B:=O BC;have D:=O BJ;have s:=hw.st.rs.bad;have Y:=hw.st.rs.blk.lt;clear hw BC BJ;rcases gk with _|g
  .have A5:=a.o;rw[Ad.o] at A5;cases A5
  have S:=Ad.o;rw[ADJ g n t (AT A C) rfl BV.o,Cw] at S;clear Ad;cases Q:G' (AT A C) n 12 7 with
  | none=>
   rw[Q] at S;have b:=O S;have x:=O Q;clear S Q;go_wp2_with fail;refine(pE V _ AV A T X C n AO.o.st.rs U).mono ?_;rw[x.o];rintro AZ AE ⟨rfl,Ae,F⟩;replace D:=O (D.o.stay F);replace B:=O (B.o.below F B.o.lt);replace AO:=O (AO.o.below F);clear Ae F s Y;obtain⟨⟨Bp,Bq,Br,Bs,Bu,Bv⟩,Bw,Bx,By,Bz,B0,B1⟩:=ED AO.o.res;have Bi:=AO.o.res.lt;obtain⟨⟨An,Ao,Ap,Aq,Ar,As⟩,_⟩:=ED B.o;have CE:=B.o.lt;go_wp2_with fail;obtain⟨Al,Am,t3⟩:=AO.o.done (D.o.mono gB);have hF:=b.o;rw[hF];exact BE (v:=.agg #[H,I,J,K,AR L,.slice N P M]) Ut rfl ⟨C,[.int .i64 H,.int .i64 I,.int .i64 J,.int .i64 K,AR L,.slice N P M],rfl,Al,Am,rfl⟩
  | some CI=>
   rw[Q] at S;obtain⟨G,rfl,CA,CC,BF⟩:=pF _ _ _ _ _ Q;have Be:=Tr BF;have B':((G:Int)==0)=false:=AM;have b:=O S;have x:=O Q;clear S Q BF;go_wp2_with fail;refine(pE V _ AV A T X C n AO.o.st.rs U).mono ?_;rw[x.o];rintro AZ AE ⟨rfl,Ae,F⟩;replace D:=O (D.o.stay F);replace B:=O (B.o.below F B.o.lt);replace AO:=O (AO.o.below F);clear Ae F s Y;have Bc:=AO.o.st.rs.blk.g1;have Bd:=AO.o.st.rs.blk.frozen 1;have Y:=AO.o.st.rs.blk.lt;have B8:=AO.o.st.rs.few;go_wp2_with fail;have BD:Hi.heap.size≠AV:=λR=>by
    have:=B.o;rw[R] at this;exact absurd (this.same AO.o.st.rs.blk) AD
   replace D:=O (D.o.kept (S:=[AV]) ((AP.refl _ AE).setCell (p:=⟨AV,1,none⟩) AH (.int .i64 ((C:Int)+1))) (λg B4 _ hg R=>by
    simp only[Aj,A',A_] at R;subst R;exact absurd (hg.same AO.o.st.rs.blk) AD))
   replace B:=O (B.o.far (p:=⟨AV,1,none⟩) BD (.int .i64 ((C:Int)+1)));replace AO:=O (AO.o.next Be);clear Bc Bd Y;generalize AE.setCell ⟨AV,1,none⟩ (.int .i64 ((C:Int)+1))=BZ at *;refine uS ?_;refine Bn (λAC=>DJ V W AC AV A T X (C+1) W.heap.size/\Ai (λg=>W.heap.size<=g/\g≠W.heap.size/\g≠Hi.heap.size) AC t [.int .i64 H,.int .i64 I,.int .i64 J,.int .i64 K,AR L,.slice N P M]
    /\AG AC Hi 213 #[H,I,J,K,AR L,.slice N P M]) (w0:=BZ.drew) ⟨AO.o.below (AN _ _).drew,D.o.stay (AN _ _).drew,B.o.drew⟩ ?_
   clear AO D B;intro B2 ⟨BM,BL,u⟩;obtain⟨⟨An,Ao,Ap,Aq,Ar,As⟩,BN,BO,BP,BQ,BR,BS⟩:=ED u;have Bf:=u.lt;have Bj:Hi.heap.size∉[AV]:=λR=>by
    simp only[Aj,A',A_] at R;exact BD R
   have AO:=O BM;have Ax:=O BL;have At:=O u;clear BM BL u;iterate 5 refine H' ?_
   refine FU ?_;intro BX A7;go_simp;go_at_call 217;have v:Hid ((pp g (.ex (n+1)) (AT A (C+1))).2.bad=false):=by
    have:=a.o;rw[b.o] at this;split at this
    .exact D2
    .exact NN this
   refine(Au.o g U (n+1) V _ AV A T X (C+1) U AO.o.st.rs v.o).mono ?_;rintro AZ E ⟨w,CK,rfl,Ah,Z,BI⟩;refine A7 _ _ Z.kept ?_;obtain⟨AI,AJ,AL,AQ,AS,AX,AY,AW,rfl⟩:=Ah.BS;have CH:=Z.kept.size;have Av:=O BI;have Ay:=O (IH Ax.o AO.o.st.rs Z);have i:=O (Gp At.o AO.o.st.rs Z AD);have CG:=AO.o.size;replace AO:=O (AO.o.call Z);have A1:=O (Ah.mono (Q:=λg=>W.heap.size<=g/\g≠W.heap.size/\g≠Hi.heap.size) (λg hg=>⟨U,U,U⟩));refine FU ?_;intro BY A9;go_simp;refine A9 _ _ N_ ?_;iterate 1 refine H' ?_
   refine KT ?_;clear A7 A9 BX BY Ah Z BI Ax At An Ao Ap Aq Ar As BN BO BP BQ BR BS Bj Bf;have d:=hal E (.cells #[H,I,J,K,AR L,.slice N P M,AI,AJ,AL,AQ,AR AS,.slice AX AY AW] 213);have AB:=O (AG.new E 213 #[H,I,J,K,AR L,.slice N P M,AI,AJ,AL,AQ,AR AS,.slice AX AY AW]);have j:=O (i.o.below d i.o.lt);have Az:=O (Ay.o.stay d);have A2:=O (A1.o.stay d);replace AO:=O (AO.o.below d);have CD:=j.o.lt;have Bm:W.heap.size<=E.heap.size/\Hi.heap.size<E.heap.size:=⟨U,i.o.lt⟩;clear i Ay A1 d;obtain⟨⟨An,Ao,Ap,Aq,Ar,As⟩,BN,BO,BP,BQ,BR,BS⟩:=ED j.o;generalize E.alloc (.cells #[H,I,J,K,AR L,.slice N P M,AI,AJ,AL,AQ,AR AS,.slice AX AY AW] 213)=B3 at *;have A0:=O (Vo (g:=Hi.heap.size) (u0:=.int .i64 (G:Int)) (u1:=.int .i64 0) (u2:=.int .i64 0) (u3:=.int .i64 0) (u4:=.string .empty) (u5:=.slice E 2 2) (Ai.bin (op:=(G:Int)) Az.o A2.o (g:=E.heap.size) (c:=2) (o:=0) ⟨Bm.1,U,U⟩ ⟨_,AB.o,λAk e=>by simp only[CB,EE] at e;match Ak,e with|0,_=>rfl|1,_=>rfl|2,_=>rfl|3,_=>rfl|4,_=>rfl|5,_=>rfl⟩ ⟨_,AB.o,λAk e=>by simp only[CB,EE] at e;match Ak,e with|0,_=>rfl|1,_=>rfl|2,_=>rfl|3,_=>rfl|4,_=>rfl|5,_=>rfl⟩ AK) (λg hg=>hg.2.2));have BU:=O (ah (u0:=.int .i64 (G:Int)) (u1:=.int .i64 0) (u2:=.int .i64 0) (u3:=.int .i64 0) (u4:=.string .empty) (u5:=.slice E 2 2) j.o);have A3:=O (AO.o.IP j.o U U G () () () (.string .empty) (.slice E 2 2));have l:Hid (A4=if n=4 then (.bin (G:Int) t (pp g (.ex (n+1)) (AT A (C+1))).1,AT A w) else pp g (.lp n (.bin (G:Int) t (pp g (.ex (n+1)) (AT A (C+1))).1)) (AT A w)):=by
    show _=_;rw[Av.o,b.o]
   clear b Av Az A2 AB;by_cases Aa:n=4
   .have Bb:((n:Int)==4)=true:=AM;have hF:=l.o;rw[Ab Aa] at hF;have y:=O hF;clear l hF;obtain⟨⟨Bp,Bq,Br,Bs,Bu,Bv⟩,Bw,Bx,By,Bz,B0,B1⟩:=ED AO.o.res;have Bi:=AO.o.res.lt;go_wp2_with fail;obtain⟨Al,Am,t3⟩:=A3.o.done (A0.o.mono gB);have hF:=y.o;rw[hF];exact BE (v:=.agg #[G,(),(),(),.string .empty,.slice E 2 2]) Ut rfl ⟨w,[.int .i64 (G:Int),.int .i64 0,.int .i64 0,.int .i64 0,.string .empty,.slice E 2 2],rfl,Al,Am,rfl⟩
   .have Bb:((n:Int)==4)=false:=AM;have hF:=l.o;rw[AU Aa] at hF;have y:=O hF;clear l hF Aa;go_wp2_with fail;go_roundg g
    case measure=>omega
    case rel=>exact⟨w,_,_,_,_,_,_,_,_,_,A3.o,BU.o,A0.o,U,BB,y,a⟩
def AID(f:Nat)(J:∀g,g<=f->M3 g)(hF:Za f):M3 (f+1):=by
 intro A B D E C I F H L h G;rcases (by omega:A=0\/A=3\/A=7\/(A=1\/A=2\/A=4\/A=5\/A=6)) with rfl|rfl|rfl|K
 .exact AIE f (J f R8) B D E C I F H h G
 .exact AIF f (J f R8) B D E C I F H h G
 .exact AIH f hF B D E C I F H h G
 .exact AII f A K J B D E C I F H h G
def pW:∀f,(∀g,g<=f->M3 g)/\Za f/\iJ f
 | 0=>by
  refine⟨?_,?_,?_⟩
  .intro g L;obtain rfl:g=0:=U;intro P C E F D I G H N h A;rw[pp] at A;cases A
  .intro C E F D I G H h A;rw[pp] at A;cases A
  .intro Q C E F D I G H O M h A;rw[pp] at A;cases A
 | f+1=>by
  obtain⟨B,J,K⟩:=pW f;refine⟨λg L=>?_,AH' f (B f R8) K,AKG f (B f R8)⟩;rcases (by omega:g<=f\/g=f+1) with h|rfl
  .exact B g h
  .exact AID f B J
def AIC(f:Nat):M3 f:=(pW f).1 f R8
section
variable{m n:Nat}{v':AB}{a:AA}
inductive Rows{α:Type}(R:α->List AB->Prop):List α->List (List AB)->Prop
 | nil:Rows R [] []
 | cons {x:α} {u:List AB} {l:List α} {us:List (List AB)} (h:R x u) (t:Rows R l us):Rows R (x::l) (u::us)
section
variable {α:Type} {R R':α->List AB->Prop}
def Rows.mono{l:List α}{us:List (List AB)}(A:Rows R l us)(C:∀x u,R x u->R' x u):Rows R' l us:=by
 induction A with
 | nil=>exact .nil
 | cons A _ D=>exact .cons (C _ _ A) D
def Rows.length{l:List α}{us:List (List AB)}(A:Rows R l us):us.length=l.length:=by
 induction A with
 | nil=>rfl
 | cons _ _ C=>simp[C]
def Rows.snoc{l:List α}{us:List (List AB)}{x:α}{u:List AB}(A:Rows R l us)(C:R x u):Rows R (l++[x]) (us++[u]):=by
 induction A with
 | nil=>exact .cons C .nil
 | cons A _ D=>exact .cons A D
def Rows.get{l:List α}{us:List (List AB)}(C:Rows R l us)(i:Nat)(x:α)(A:l[i]? = some x):∃u,us[i]? = some u/\R x u:=by
 induction C generalizing i with
 | nil=>cases A
 | cons C _ D=>
  cases i with
  | zero=>
   rw[A8] at A ⊢;cases A;exact⟨_,rfl,C⟩
  | succ i=>
   rw[Bt] at A ⊢;exact D i A
def Rows.flat{l:List α}{us:List (List AB)}(A:Rows R l us)(C:∀x u,R x u->u.length=m):us.flatten.length=l.length*m:=by
 induction A with
 | nil=>simp
 | cons A _ D=>simp[D,C _ _ A,Kj,Nat.add_comm]
def Rows.at{l:List α}{us:List (List AB)}(h:Rows R l us)(F:∀x u,R x u->u.length=m)(i:Nat)(x:α)(A:l[i]? = some x):∃u,R x u/\∀j,j<m->us.flatten[i*m+j]? = u[j]?:=by
 induction h generalizing i with
 | nil=>cases A
 | @cons x0 u0 l0 H h t ih=>
  have G:=F _ _ h;cases i with
  | zero=>
   rw[A8] at A;cases A;refine⟨u0,h,λj C=>?_⟩;rw[Lb,O6,DP,Te U]
  | succ i=>
   rw[Bt] at A;obtain⟨u,D,E⟩:=ih i A;refine⟨u,D,λj C=>?_⟩;have:(i+1)*m=m+i*m:=by rw[Kj,Nf,Nat.add_comm]
   rw[Lb,Qt U,<-E j C];congr 1
   omega
end
def FX(x:M7)(u:List AB):Prop:=u=[.int .i64 x.kind,.int .i64 x.limit]
def Fj(x:N3)(u:List AB):Prop:=u=[.int .i64 x.year,.int .i64 x.f.n,.int .i64 x.f.d]
def D9(P:Nat->Prop)(w:AA)(x:Fm)(u:List AB):Prop:=∃A,u=AR x.name::A/\Ai P w x.body A
def D4(P:Nat->Prop)(w:AA)(x:K9)(u:List AB):Prop:=∃A C,u=.int .i64 x.CN::(A++C)/\Ai P w x.cond A/\Ai P w x.pay C
def EO(P:Nat->Prop)(w:AA)(x:Kx)(u:List AB):Prop:=∃A,u=.int .i64 x.CN::A/\Ai P w x.H5 A
def FX.len{x:M7}{u:List AB}(h:FX x u):u.length=2:=M5
def Fj.len{x:N3}{u:List AB}(h:Fj x u):u.length=3:=M5
def D9.len{P:Nat->Prop}{w:AA}{x:Fm}{u:List AB}(h:D9 P w x u):u.length=7:=wM
def D4.len{P:Nat->Prop}{w:AA}{x:K9}{u:List AB}(A:D4 P w x u):u.length=13:=by obtain⟨D,E,rfl,A,C⟩:=A;simp[A.len,C.len]
def EO.len{P:Nat->Prop}{w:AA}{x:Kx}{u:List AB}(h:EO P w x u):u.length=7:=wM
structure DE(S:List Nat)(B:Nat)(w w':AA):Prop where
 os:w'.os=w.os
 tape:w'.tape=w.tape
 output:w'.output=w.output
 size:w.heap.size<=w'.heap.size
 block:∀k,k<B->k∉S->w'.heap[k]? = w.heap[k]?
def DE.refl(S:List Nat)(B:Nat)(w:AA):DE S B w w:=⟨rfl,rfl,rfl,Bh _,λ_ _ _=>rfl⟩
def DE.trans{S:List Nat}{B:Nat}{b c:AA}(A:DE S B a b)(k:DE S B b c):DE S B a c:=
 ⟨k.os.trans A.os,k.tape.trans A.tape,k.output.trans A.output,Ap A.size k.size,λE C D=>(k.block E C D).trans (A.block E C D)⟩
def DE.of{S H9:List Nat}{B:Nat}{b:AA}(h:AP H9 a b)(F:B<=a.heap.size)(A:∀k,k∈H9->k<B->k∈S):DE S B a b:=
 ⟨h.os,h.tape,h.output,h.size,λk C E=>h.block k U (λD=>E (A k D C))⟩
def AS{α:Type}(B:Nat)(w:AA)(t m:Nat)(R:α->List AB->Prop)(A:List α)(v:AB):Prop:=∃C,Rows R A C/\w.ownsRow B t m v A.length C.flatten
def AS.kept{α:Type}{B:Nat}{w w':AA}{t:Nat}{R R':α->List AB->Prop}{A:List α}{v:AB}{S:List Nat}(C:AS B w t m R A v)(H:AP S w w')(G:∀g cs,AG w g t cs->g∉S)(F:∀x u,R x u->R' x u):AS B w' t m R' A v:=by
 obtain⟨I,D,E⟩:=C;exact⟨I,D.mono F,Bl E H G⟩
def Gd{w w':AA}{B t:Nat}{v:AB}{l:List AB}(h:w.ownsRow B t m v n l)(A:w.grownBy w' v.ownBlock):
 ∃S:List Nat,AP S w w'/\(∀g,g∈S->B<=g/\∃cs,AG w g t cs):=by
 rcases h.2 with ⟨rfl,_⟩|⟨g,H,cur,rfl,D,E,_⟩
 .exact⟨[],⟨A.os,A.tape,A.output,A.size,λG F _=>A.block G F (by simp[Value.ownBlock])⟩,AH⟩
 .refine⟨[g],AP.HW A AH,λI C=>?_⟩;simp only[Aj,A',A_] at C;subst C;exact⟨D,cur,E⟩
structure CS(B:Nat)(w:AA)(b:Nat)(x:Ah)(s1 s2 s3 s4 As:AB):Prop where
 blk:AG w b 151 #[x.fr,x.mode,x.unit,s1,s2,s3,s4,As]
 lo:B<=b
 c1:AS B w 206 2 FX x.Ae s1
 c2:AS B w 209 3 Fj x.Ad s2
 c3:AS B w 215 7 (D9 (λg=>B<=g) w) x.lets s3
 c4:AS B w 218 13 (D4 (λg=>B<=g) w) x.Ac s4
 c5:AS B w 221 7 (EO (λg=>B<=g) w) x.red As
abbrev JX(t:Nat):Prop:=t=151\/t=206\/t=209\/t=215\/t=218\/t=221\/t=213
section
variable {B:Nat} {w w':AA} {b:Nat} {x:Ah} {s1 s2 s3 s4 As:AB} {S:List Nat} {P:Nat->Prop}
def D9.kept{y:Fm}{u:List AB}(h:D9 P w y u)(hk:AP S w w')(hS:∀g cs,AG w g 213 cs->g∉S):D9 P w' y u:=by
 exact ql
def D4.kept{y:K9}{u:List AB}(E:D4 P w y u)(D:AP S w w')(C:∀g cs,AG w g 213 cs->g∉S):D4 P w' y u:=by
 obtain⟨I,J,F,G,H⟩:=E;exact⟨I,J,F,G.kept D (λg cs _ A=>C g cs A),H.kept D (λg cs _ A=>C g cs A)⟩
def EO.kept{y:Kx}{u:List AB}(h:EO P w y u)(hk:AP S w w')(hS:∀g cs,AG w g 213 cs->g∉S):EO P w' y u:=by
 exact ql
def CS.kept(h:CS B w b x s1 s2 s3 s4 As)(C:AP S w w')(D:∀g t cs,AG w g t cs->JX t->g∉S):CS B w' b x s1 s2 s3 s4 As:=
 have E:∀g cs,AG w g 213 cs->g∉S:=λg cs A=>D g _ cs A OM;⟨h.blk.kept C (D _ _ _ h.blk OM),h.lo,h.c1.kept C (λg cs A=>D g _ cs A OM) BW,h.c2.kept C (λg cs A=>D g _ cs A OM) BW,
  h.c3.kept C (λg cs A=>D g _ cs A OM) (λ_ _ q=>q.kept C E),h.c4.kept C (λg cs A=>D g _ cs A OM) (λ_ _ q=>q.kept C E),h.c5.kept C (λg cs A=>D g _ cs A OM) (λ_ _ q=>q.kept C E)⟩
def CS.below(h:CS B w b x s1 s2 s3 s4 As)(hb:Below w w w'):CS B w' b x s1 s2 s3 s4 As:=
 h.kept (S:=[]) CX My
def CS.to{B':Nat}{C:Nat}{T:A9}{v:AB}{D:Int}{k J:Nat}(h:CS B w b x s1 s2 s3 s4 As)(G:BM B' w C T v D k)(H:To B' w w' C T v D J):CS B w' b x s1 s2 s3 s4 As:=
 h.kept H.kept (λL M K F I E=>by
  simp only[Aj,A',A_] at E;subst E;have:=F.same G.blk;subst this;rcases I with A|A|A|A|A|A|A<;>exact absurd A AD)
end
def AS.snoc{α:Type}{B:Nat}{w:AA}{t:Nat}{R:α->List AB->Prop}{A:List α}{v:AB}{us:List (List AB)}{y:α}{u:List AB}(C:Rows R A us)(E:R y u)(D:w.ownsRow B t m v (A.length+1) (us.flatten++u)):AS B w t m R (A++[y]) v:=
 ⟨us++[u],C.snoc E,by rw[O9,Cp];simpa using D⟩
def TH{w:AA}{B t b:Nat}{v:AB}{l:List AB}{D:Nat}{cs:Array AB}(A:w.ownsRow B t m v n l)(E:AG w b D cs)(F:t≠D)(p:Addr)(G:p.block=b)(u:AB):(w.setCell p u).ownsRow B t m v n l:=
 WF A ((AP.refl [b] w).setCell (by simp[G]) u) (λH C=>by
  simp only[Aj,A',A_] at C;subst C;exact E.apart A F)
structure Uj(B:Nat)(W X Y:AA)(AV:Nat)(T:A9)(v:AB)(en:Int)(k:Nat)(ER b:Nat)(x:Ah)(s1 s2 s3 s4 As:AB):Prop where
 rs:BM B Y AV T v en k
 BB:CS ER Y b x s1 s2 s3 s4 As
 low:DE [AV] ER X Y
def CS.Fy{B:Nat}{W X w':AA}{H:Nat}{T:A9}{v:AB}{I:Int}{k F b:Nat}{x:Ah}{s1 s2 s3 s4 As:AB}(N:BM B X H T v I k)(h:CS F X b x s1 s2 s3 s4 As)(K:F<=X.heap.size)
 {us:List (List AB)}{u:List AB}(O:Rows FX x.Ae us)(y:M7)(Q:FX y u)(L:X.ownsRow F 206 2 s1 x.Ae.length us.flatten)(M:w'.ownsRow F 206 2 v' (x.Ae.length+1) (us.flatten++u))(hg:X.grownBy w' s1.ownBlock):
 Uj B W X (w'.setCell ⟨b,3,none⟩ v') H T v I k F b { x with Ae:=x.Ae++[y] } v' s2 s3 s4 As:=by
 obtain⟨S,hk,hS⟩:=Gd L hg;have C:AP (b::S) X (w'.setCell ⟨b,3,none⟩ v'):=by
  exact UZ
 have D:∀g E A,AG X g E A->E≠151->E≠206->g∉b::S:=λg E A hg h1 h2 hm=>by
  exact UX
 have G:∀g A,AG X g 213 A->g∉b::S:=λg A hg=>D g _ A hg AD AD;have J:b∉S:=λhm=>by
  exact UT
 refine⟨N.kept C (λg E A hg hty=>D g E A hg LB LB),⟨?_,h.lo,AS.snoc (O.mono BW) (Q) (TH M (h.blk.kept hk J) AD ⟨b,3,none⟩ rfl v'),h.c2.kept C (λg A hg=>D g _ A hg AD AD) BW,h.c3.kept C (λg A hg=>D g _ A hg AD AD) (λ_ _ q=>q.kept C G),h.c4.kept C (λg A hg=>D g _ A hg AD AD) (λ_ _ q=>q.kept C G),h.c5.kept C (λg A hg=>D g _ A hg AD AD) (λ_ _ q=>q.kept C G)⟩,
  DE.of C K (λq hq U=>?_)⟩
 .exact(h.blk.kept hk J).put 3 v'
 .exact UU
def CS.ACm{B:Nat}{W X w':AA}{H:Nat}{T:A9}{v:AB}{I:Int}{k F b:Nat}{x:Ah}{s1 s2 s3 s4 As:AB}(N:BM B X H T v I k)(h:CS F X b x s1 s2 s3 s4 As)(K:F<=X.heap.size)
 {us:List (List AB)}{u:List AB}(O:Rows Fj x.Ad us)(y:N3)(Q:Fj y u)(L:X.ownsRow F 209 3 s2 x.Ad.length us.flatten)(M:w'.ownsRow F 209 3 v' (x.Ad.length+1) (us.flatten++u))(hg:X.grownBy w' s2.ownBlock):
 Uj B W X (w'.setCell ⟨b,4,none⟩ v') H T v I k F b { x with Ad:=x.Ad++[y] } s1 v' s3 s4 As:=by
 obtain⟨S,hk,hS⟩:=Gd L hg;have C:AP (b::S) X (w'.setCell ⟨b,4,none⟩ v'):=by
  exact UZ
 have D:∀g E A,AG X g E A->E≠151->E≠209->g∉b::S:=λg E A hg h1 h2 hm=>by
  exact UX
 have G:∀g A,AG X g 213 A->g∉b::S:=λg A hg=>D g _ A hg AD AD;have J:b∉S:=λhm=>by
  exact UT
 refine⟨N.kept C (λg E A hg hty=>D g E A hg LB LB),⟨?_,h.lo,h.c1.kept C (λg A hg=>D g _ A hg AD AD) BW,AS.snoc (O.mono BW) (Q) (TH M (h.blk.kept hk J) AD ⟨b,4,none⟩ rfl v'),h.c3.kept C (λg A hg=>D g _ A hg AD AD) (λ_ _ q=>q.kept C G),h.c4.kept C (λg A hg=>D g _ A hg AD AD) (λ_ _ q=>q.kept C G),h.c5.kept C (λg A hg=>D g _ A hg AD AD) (λ_ _ q=>q.kept C G)⟩,
  DE.of C K (λq hq U=>?_)⟩
 .exact(h.blk.kept hk J).put 4 v'
 .exact UU
def CS.ACl{B:Nat}{W X w':AA}{F:Nat}{T:A9}{v:AB}{G:Int}{k C b:Nat}{x:Ah}{s1 s2 s3 s4 As:AB}(L:BM B X F T v G k)(h:CS C X b x s1 s2 s3 s4 As)(I:C<=X.heap.size)
 {us:List (List AB)}{u:List AB}(GF:Rows (D9 (λg=>C<=g) X) x.lets us)(y:Fm)(M:(D9 (λg=>C<=g) X) y u)(J:X.ownsRow C 215 7 s3 x.lets.length us.flatten)(K:w'.ownsRow C 215 7 v' (x.lets.length+1) (us.flatten++u))(hg:X.grownBy w' s3.ownBlock):
 Uj B W X (w'.setCell ⟨b,5,none⟩ v') F T v G k C b { x with lets:=x.lets++[y] } s1 s2 v' s4 As:=by
 obtain⟨S,hk,hS⟩:=Gd J hg;have hk2:AP (b::S) X (w'.setCell ⟨b,5,none⟩ v'):=by
  exact UZ
 have D:∀g E A,AG X g E A->E≠151->E≠215->g∉b::S:=λg E A hg h1 h2 hm=>by
  exact UX
 have hE:∀g A,AG X g 213 A->g∉b::S:=λg A hg=>D g _ A hg AD AD;have H:b∉S:=λhm=>by
  exact UT
 refine⟨L.kept hk2 (λg E A hg hty=>D g E A hg LB LB),⟨?_,h.lo,h.c1.kept hk2 (λg A hg=>D g _ A hg AD AD) BW,h.c2.kept hk2 (λg A hg=>D g _ A hg AD AD) BW,AS.snoc gA (M.kept hk2 hE) (TH K (h.blk.kept hk H) AD ⟨b,5,none⟩ rfl v'),h.c4.kept hk2 (λg A hg=>D g _ A hg AD AD) (λ_ _ q=>q.kept hk2 hE),h.c5.kept hk2 (λg A hg=>D g _ A hg AD AD) (λ_ _ q=>q.kept hk2 hE)⟩,
  DE.of hk2 I (λq hq N=>?_)⟩
 .exact(h.blk.kept hk H).put 5 v'
 .exact UU
def CS.ACk{B:Nat}{W X w':AA}{F:Nat}{T:A9}{v:AB}{G:Int}{k C b:Nat}{x:Ah}{s1 s2 s3 s4 As:AB}(L:BM B X F T v G k)(h:CS C X b x s1 s2 s3 s4 As)(I:C<=X.heap.size)
 {us:List (List AB)}{u:List AB}(GF:Rows (D4 (λg=>C<=g) X) x.Ac us)(y:K9)(M:(D4 (λg=>C<=g) X) y u)(J:X.ownsRow C 218 13 s4 x.Ac.length us.flatten)(K:w'.ownsRow C 218 13 v' (x.Ac.length+1) (us.flatten++u))(hg:X.grownBy w' s4.ownBlock):
 Uj B W X (w'.setCell ⟨b,6,none⟩ v') F T v G k C b { x with Ac:=x.Ac++[y] } s1 s2 s3 v' As:=by
 obtain⟨S,hk,hS⟩:=Gd J hg;have hk2:AP (b::S) X (w'.setCell ⟨b,6,none⟩ v'):=by
  exact UZ
 have D:∀g E A,AG X g E A->E≠151->E≠218->g∉b::S:=λg E A hg h1 h2 hm=>by
  exact UX
 have hE:∀g A,AG X g 213 A->g∉b::S:=λg A hg=>D g _ A hg AD AD;have H:b∉S:=λhm=>by
  exact UT
 refine⟨L.kept hk2 (λg E A hg hty=>D g E A hg LB LB),⟨?_,h.lo,h.c1.kept hk2 (λg A hg=>D g _ A hg AD AD) BW,h.c2.kept hk2 (λg A hg=>D g _ A hg AD AD) BW,h.c3.kept hk2 (λg A hg=>D g _ A hg AD AD) (λ_ _ q=>q.kept hk2 hE),AS.snoc gA (M.kept hk2 hE) (TH K (h.blk.kept hk H) AD ⟨b,6,none⟩ rfl v'),h.c5.kept hk2 (λg A hg=>D g _ A hg AD AD) (λ_ _ q=>q.kept hk2 hE)⟩,
  DE.of hk2 I (λq hq N=>?_)⟩
 .exact(h.blk.kept hk H).put 6 v'
 .exact UU
def CS.ACj{B:Nat}{W X w':AA}{F:Nat}{T:A9}{v:AB}{G:Int}{k C b:Nat}{x:Ah}{s1 s2 s3 s4 As:AB}(L:BM B X F T v G k)(h:CS C X b x s1 s2 s3 s4 As)(I:C<=X.heap.size)
 {us:List (List AB)}{u:List AB}(GF:Rows (EO (λg=>C<=g) X) x.red us)(y:Kx)(M:(EO (λg=>C<=g) X) y u)(J:X.ownsRow C 221 7 As x.red.length us.flatten)(K:w'.ownsRow C 221 7 v' (x.red.length+1) (us.flatten++u))(hg:X.grownBy w' As.ownBlock):
 Uj B W X (w'.setCell ⟨b,7,none⟩ v') F T v G k C b { x with red:=x.red++[y] } s1 s2 s3 s4 v':=by
 obtain⟨S,hk,hS⟩:=Gd J hg;have hk2:AP (b::S) X (w'.setCell ⟨b,7,none⟩ v'):=by
  exact UZ
 have D:∀g E A,AG X g E A->E≠151->E≠221->g∉b::S:=λg E A hg h1 h2 hm=>by
  exact UX
 have hE:∀g A,AG X g 213 A->g∉b::S:=λg A hg=>D g _ A hg AD AD;have H:b∉S:=λhm=>by
  exact UT
 refine⟨L.kept hk2 (λg E A hg hty=>D g E A hg LB LB),⟨?_,h.lo,h.c1.kept hk2 (λg A hg=>D g _ A hg AD AD) BW,h.c2.kept hk2 (λg A hg=>D g _ A hg AD AD) BW,h.c3.kept hk2 (λg A hg=>D g _ A hg AD AD) (λ_ _ q=>q.kept hk2 hE),h.c4.kept hk2 (λg A hg=>D g _ A hg AD AD) (λ_ _ q=>q.kept hk2 hE),AS.snoc gA (M.kept hk2 hE) (TH K (h.blk.kept hk H) AD ⟨b,7,none⟩ rfl v')⟩,
  DE.of hk2 I (λq hq N=>?_)⟩
 .exact(h.blk.kept hk H).put 7 v'
 .exact UU
end
structure D_(B:Nat)(W X:AA)(AV:Nat)(T:A9)(v:AB)(en:Int)(k q t:Nat)(cs:Array AB):Prop where
 st:To B W X AV T v en k
 blk:AG X q t cs
 lo:W.heap.size<=q
 ne:t≠194/\t≠259
section
variable {B:Nat} {W X Y:AA} {AV:Nat} {T:A9} {v:AB} {en:Int} {k k' q t:Nat} {cs:Array AB}
def D_.start(h:To B W X AV T v en k)(t:Nat)(cs:Array AB)(A:t≠194/\t≠259):D_ B W (X.alloc (.cells cs t)) AV T v en k X t cs:=
 ⟨h.below C8,AG.new X t cs,h.kept.size,A⟩
def D_.call(A:D_ B W X AV T v en k q t cs)(C:To B X Y AV T v en k'):D_ B W Y AV T v en k' q t cs:=
 ⟨A.st.trans C,Gp A.blk A.st.rs C A.ne.1,A.lo,A.ne⟩
def D_.below(A:D_ B W X AV T v en k q t cs)(C:Below X X Y):D_ B W Y AV T v en k q t cs:=⟨A.st.below C,A.blk.below C A.blk.lt,A.lo,A.ne⟩
def D_.put(h:D_ B W X AV T v en k q t cs)(i:Nat)(u:AB):D_ B W (X.setCell ⟨q,i,none⟩ u) AV T v en k q t (cs.setIfInBounds i u):=by
 have hk:AP [q] X (X.setCell ⟨q,i,none⟩ u):=(AP.refl [q] X).setCell AH _;refine⟨⟨h.st.rs.kept hk (λp G E D A C=>?_),?_⟩,h.blk.put i u,h.lo,h.ne⟩
 .simp only[Aj,A',A_] at C;subst C;have:=D.same h.blk;rcases A with A|A<;>rw[A] at this
  .exact h.ne.1 this.symm
  .exact h.ne.2 this.symm
 .have PH:=h.st.kept;have F:=h.lo;exact s7
def D_.IP(A:D_ B W X AV T v en k q t cs)(o:Nat)(u0 u1 u2 u3 u4 u5:AB):
 D_ B W ((((((X.setCell ⟨q,o,none⟩ u0).setCell ⟨q,o+1,none⟩ u1).setCell ⟨q,o+2,none⟩ u2).setCell ⟨q,o+3,none⟩ u3).setCell ⟨q,o+4,none⟩ u4).setCell ⟨q,o+5,none⟩ u5) AV T v en k q t
  ((((((cs.setIfInBounds o u0).setIfInBounds (o+1) u1).setIfInBounds (o+2) u2).setIfInBounds (o+3) u3).setIfInBounds (o+4) u4).setIfInBounds (o+5) u5):=
 (((((A.put o u0).put (o+1) u1).put (o+2) u2).put (o+3) u3).put (o+4) u4).put (o+5) u5
def D_.size(A:D_ B W X AV T v en k q t cs):W.heap.size<=X.heap.size:=A.st.kept.size
def aL{P:Nat->Prop}{e:AY}{C:List AB}(D:Ai P X e C)(A:∀g,P g->g≠q)(o:Nat)(u0 u1 u2 u3 u4 u5:AB):
 Ai P ((((((X.setCell ⟨q,o,none⟩ u0).setCell ⟨q,o+1,none⟩ u1).setCell ⟨q,o+2,none⟩ u2).setCell ⟨q,o+3,none⟩ u3).setCell ⟨q,o+4,none⟩ u4).setCell ⟨q,o+5,none⟩ u5) e C:=
 (((((D.set _ A).set _ A).set _ A).set _ A).set _ A).set _ A
end
def P7(B:Nat)(W:AA)(AV:Nat)(T:A9)(v:AB)(en:Int)(C b:Nat)(r:Ah × Rd)(e:Ending)(A:AA):Prop:=
 e=.returned (.tuple #[])/\∃(k:Nat) (D E F G H:AB),BM B A AV T v en k/\CS C A b r.1 D E F G H/\DE [AV] C W A/\AT T k=r.2
def od(v:Ah)(r:Rd)(A:r.Am GJ=true):Cy v r=(if (r.AX.of 1).2.Am Rb=true then
 ({ v with Ae:=v.Ae++[⟨(r.AX.of 1).1,((r.AX.of 1).2.AX.whole 1 73049).1⟩] },((r.AX.of 1).2.AX.whole 1 73049).2.want [59])
 else ({ v with Ae:=v.Ae++[⟨(r.AX.of 1).1,0⟩] },(r.AX.of 1).2.want [59])):=by
 simp only[Cy,A,CI];split<;>rfl
def AJl(v:Ah)(r:Rd)(A:r.Am GJ=false)(C:r.Am Ie=false)(D:r.Am Kt=true):
 Cy v r=({ v with lets:=v.lets++[⟨r.AX.name.1,(Ek (r.AX.name.2.want [61])).1⟩] },(Ek (r.AX.name.2.want [61])).2.want [59]):=by
 simp only[Cy,A,C,D,CI,DW,DV]
def AJn(v:Ah)(r:Rd)(A:r.Am GJ=false)(C:r.Am Ie=false)(D:r.Am Kt=false)(E:r.Am Ny=true):
 Cy v r=({ v with Ac:=v.Ac++[⟨(r.AX.of 2).1,(Ek ((r.AX.of 2).2.want [105,102])).1,(Ek ((Ek ((r.AX.of 2).2.want [105,102])).2.want [112,97,121])).1⟩] },(Ek ((Ek ((r.AX.of 2).2.want [105,102])).2.want [112,97,121])).2.want [59]):=by
 simp only[Cy,A,C,D,E,CI,DW,DV]
def AJj(v:Ah)(r:Rd)(A:r.Am GJ=false)(C:r.Am Ie=false)(D:r.Am Kt=false)(E:r.Am Ny=false)(F:r.Am [114,101,100,117,99,101]=true):
 Cy v r=({ v with red:=v.red++[⟨(r.AX.of 2).1,(Ek ((r.AX.of 2).2.want [98,121])).1⟩] },(Ek ((r.AX.of 2).2.want [98,121])).2.want [59]):=by
 simp only[Cy,A,C,D,E,F,CI,DW,DV]
def AJi(v:Ah)(r:Rd)(D:r.Am GJ=false)(E:r.Am Ie=true)(A:(Cy v r).2.bad=false):
 ∃f q,(r.AX.whole 1900 2099).2.l=.n f 2::q/\0<f.n/\(r.AX.whole 1900 2099).2.bad=false/\Cy v r=({ v with Ad:=v.Ad++[⟨(r.AX.whole 1900 2099).1,f⟩] },(r.AX.whole 1900 2099).2.AX.want [59]):=by
 simp only[Cy,D,E,CI,DW,DV] at A ⊢;split at A
 .rename_i f I q F H;split at A
  .rename_i G;obtain⟨rfl,C⟩:=G;exact⟨f,q,H,C,F,by simp[C]⟩
  .rw[Rd.Oc rfl] at A;cases A
 .rw[Rd.Oc rfl] at A;cases A
def AJk(v:Ah)(r:Rd)(A:r.Am GJ=false)(C:r.Am Ie=false)(D:r.Am Kt=false)(E:r.Am Ny=false)(F:r.Am [114,101,100,117,99,101]=false):(Cy v r).2.bad=true:=by
 simp only[Cy,A,C,D,E,F,DW,DV];exact Rd.Oc rfl
def XI(B:Nat)(W:AA)(AV:Nat)(T:A9)(v:AB)(en:Int)(k:Nat)(h:BM B W AV T v en k)(A:(Ek (AT T k)).2.bad=false):
 AI 217 #[.pointer AV,()] W (SG B W AV T v en (Ek (AT T k))):=by
 unfold Ek at A ⊢;exact AIC 200000 0 B W AV T v en k U h A
def CG{w:AA}{B t m n:Nat}{v:AB}{l:List AB}(h:w.ownsRow B t m v n l):∃a c,v=.slice a n c:=by
 rcases h.2 with ⟨rfl,h0⟩|⟨C,A,cur,rfl,_⟩
 .exact⟨none,0,Ux⟩
 .exact⟨_,_,rfl⟩
def To.refl{B:Nat}{W:AA}{AV:Nat}{T:A9}{v:AB}{en:Int}{k:Nat}(A:BM B W AV T v en k):To B W W AV T v en k:=⟨A,AP.refl _ _⟩
def tH:(prog.info? 215).map (λi=>(i.zero,i.size,i.bytes))=some (some (.agg #[.string .empty,(),(),(),(),.string .empty,AL]),7,88):=AF
def AJd(B:Nat)(W:AA)(C:Nat)(T:A9)(v:AB)(D:Int)(k ER b:Nat)(x:Ah)(m n Aa o r:AB)(h:BM B W C T v D k)(AX:CS ER W b x m n Aa o r)(AQ:ER<=W.heap.size)(As:x.lets.length<=9000)(Z:(Cy x (AT T k)).2.bad=false)
 (e:(AT T k).Am GJ=false)(f:(AT T k).Am Ie=false)(i:(AT T k).Am Kt=true):
 AI 158 #[.pointer C,.pointer b] W (P7 B W C T v D ER b (Cy x (AT T k))):=by
 have F:=AJl x (AT T k) e f i;rw[Cw] at F;rw[F] at Z;obtain⟨R,J,S⟩:=Rd.EC Z;obtain⟨j,l,P⟩:=Rd.EC (XG J);obtain⟨Ax,A0,_,Ay,Az,m4⟩:=Rd.WK l;have AY:(AT T (k+1)).name.2=AT T (k+2):=U9;rw[AY] at j P R J S F;rw[Cw] at P;have hw:(AT T (k+2)).want [61]=AT T (k+3):=P;rw[hw] at R J S F;rw[F];have w:=O e;have y:=O f;have z:=O i;have AC:=O j;have AE:=O l;have Q1:=O R;have AG:=O J;have AJ:=O S;have H:=O AX;have K:=O h;have AO:=O R7;obtain⟨AP,c,rfl,Ar⟩:=h.slice;generalize AS:(AT T (k+1)).name.1=N at *;have t:=O AS;generalize Value.slice AP T.length c=v at *;go_in;go_wp2_with fail;go_call GU B _ C T v D k GJ AO.o.rs rfl w.o as E AK ⟨rfl,Fe⟩;replace AO:=O Fn;go_wp2_with fail;go_call GU B _ C T v D k Ie AO.o.rs rfl y.o as E AK ⟨rfl,Fe⟩;replace AO:=O Fn;go_wp2_with fail;go_call Hu B _ C T v D k Kt AO.o.rs rfl z.o as E W2 ⟨rfl,ht2⟩;replace AO:=O J';go_wp2_with fail;refine(bo B _ C T v D (k+1) AO.o.rs AE.o).mono ?_;rw[t.o];rintro E W3 ⟨rfl,ht2⟩;replace AO:=O J';go_wp2_with fail;have A:=O (D_.start AO.o 215 #[AR N,(),(),(),(),.string .empty,AL] AD);have Au:=AO.o.kept.size;go_call EH B _ C T v D (k+1+1) [61] A.o.st.rs rfl AC.o as E Ad ⟨rfl,ht2⟩;replace A:=O (A.o.call ht2);have Av:=ht2.kept.size;go_wp2_with fail;go_call XI B _ C T v D (k+3) A.o.st.rs AG.o as E AN ⟨k6,vs,rfl,htr,d,AV⟩;have AU:=A.o.blk.lt;replace A:=O (A.o.call d);have Aw:=d.kept.size;obtain⟨a0,a1,a2,a3,a4,ad,an,ac,rfl⟩:=htr.BS;have By:=O Ym;have ZI:=O AV;obtain⟨-,Ag,Ai,Aj,Ak,Al,Am,-⟩:=A.o.blk.fz;obtain⟨A5,A6,A7,A_,A',BA,BB,_⟩:=A.o.blk.ST;have AU:=A.o.blk.lt;have D':=O (A.o.IP 1 a0 a1 a2 a3 (AR a4) (.slice ad an ac));have u:=O f_;have I:=O (H.o.to K.o D'.o.st);obtain⟨Ab,AW,hown⟩:=I.o.c3;have A2:=(H.o.to K.o A.o.st).blk.g5;have A3:=(H.o.to K.o A.o.st).blk.frozen 5;have At:=H.o.blk.lt;have Aq:b≠W3.heap.size:=U;have Ao:b<AN.heap.size:=U;go_wp2_with (at_builtin;go_loud (refine ET AZ _ _ 147 215 AZ underlying147 (.agg #[.string .empty,(),(),(),(),.string .empty,AL]) 7 88 U U tH rfl ER _ x.lets.length Ab.flatten _ [AR N,.int .i64 a0,.int .i64 a1,.int .i64 a2,.int .i64 a3,AR a4,.slice ad an ac] rfl C2 rfl HP _ AZ AH U AM ?_);intro A1 s a An Y;obtain⟨V,X,rfl⟩:=CG a;have M:=I.o.blk.grown Y (I.o.blk.apart hown AD);have A4:=M.frozen 5;have Ap:=M.lt;have Ac:=M.cell 5;simp only[CH,A8,Bt] at Ac;have G:=O (CS.ACl (W:=W) D'.o.st.rs I.o SP AW ⟨N,(Ek (AT T (k+3))).1⟩ ⟨_,rfl,u.o.mono (λg hg=>hg.1)⟩ hown a Y))
 have Jn:DE [C] ER W (s.setCell ⟨b,5,none⟩ (.slice V (x.lets.length+1) X)):=(DE.of D'.o.st.kept AQ JK).trans G.o.low;generalize s.setCell ⟨b,5,none⟩ (.slice V (x.lets.length+1) X)=Ae at *;have AF:Hid ((AT T k6).Am [59]=true):=wD;go_call EH B _ C T v D k6 [59] G.o.rs rfl AF.o as E Af ⟨rfl,L⟩;go_wp2_with fail;refine Lh (v:=.tuple #[]) SQ rfl ⟨rfl,k6+1,m,n,_,o,r,L.rs,G.o.BB.to G.o.rs L,Jn.trans (DE.of L.kept ?_ JK),?_⟩
 .exact Rf
 .rw[<-Cw,ZI.o,AJ.o]
def tG:(prog.info? 221).map (λi=>(i.zero,i.size,i.bytes))=some (some (.agg #[(),(),(),(),(),.string .empty,AL]),7,80):=AF
def AJc(B:Nat)(W:AA)(C:Nat)(T:A9)(v:AB)(D:Int)(k ER b:Nat)(x:Ah)(r s t u Ae:AB)(h:BM B W C T v D k)(Ac:CS ER W b x r s t u Ae)(AW:ER<=W.heap.size)(Aw:x.red.length<=9000)(a:(Cy x (AT T k)).2.bad=false)
 (f:(AT T k).Am GJ=false)(i:(AT T k).Am Ie=false)(j:(AT T k).Am Kt=false)(l:(AT T k).Am Ny=false)(m:(AT T k).Am [114,101,100,117,99,101]=true):
 AI 158 #[.pointer C,.pointer b] W (P7 B W C T v D ER b (Cy x (AT T k))):=by
 have F:=AJj x (AT T k) f i j l m;rw[Cw] at F;rw[F] at a;obtain⟨S,J,V⟩:=Rd.EC a;obtain⟨n,o,R⟩:=Rd.EC (XG J);obtain⟨A1,A5,_,A4,A2,A3,m4⟩:=Rd.Qj o;have Ad:((AT T (k+1)).of 2).2=AT T (k+2):=U9;rw[Ad] at n R S J V F;rw[Cw] at R;have hw:(AT T (k+2)).want [98,121]=AT T (k+3):=R;rw[hw] at S J V F;rw[F];have AC:=O f;have AE:=O i;have AF:=O j;have AG:=O l;have AJ:=O m;have AK:=O n;have AN:=O o;have Q1:=O S;have AQ:=O J;have AS:=O V;have H:=O Ac;have K:=O h;have AO:=O R7;obtain⟨AV,c,rfl,Av⟩:=h.slice;generalize AX:((AT T (k+1)).of 2).1=P at *;have y:=O AX;generalize Value.slice AV T.length c=v at *;go_in;go_wp2_with fail;go_call GU B _ C T v D k GJ AO.o.rs rfl AC.o as E L ⟨rfl,Fe⟩;replace AO:=O Fn;go_wp2_with fail;go_call GU B _ C T v D k Ie AO.o.rs rfl AE.o as E L ⟨rfl,Fe⟩;replace AO:=O Fn;go_wp2_with fail;go_call GU B _ C T v D k Kt AO.o.rs rfl AF.o as E L ⟨rfl,Fe⟩;replace AO:=O Fn;go_wp2_with fail;go_call GU B _ C T v D k Ny AO.o.rs rfl AG.o as E L ⟨rfl,Fe⟩;replace AO:=O Fn;go_wp2_with fail;go_call Hu B _ C T v D k [114,101,100,117,99,101] AO.o.rs rfl AJ.o as E W2 ⟨rfl,ht2⟩;replace AO:=O J';go_wp2_with fail;refine(TL B _ C T v D (k+1) 2 U AO.o.rs AN.o).mono ?_;rw[y.o];rintro E W3 ⟨rfl,ht2⟩;replace AO:=O J';go_wp2_with fail;have A:=O (D_.start AO.o 221 #[Value.int .i64 P,(),(),(),(),.string .empty,AL] AD);have Ay:=AO.o.kept.size;go_call EH B _ C T v D (k+1+1) [98,121] A.o.st.rs rfl AK.o as E Ai ⟨rfl,ht2⟩;replace A:=O (A.o.call ht2);have Az:=ht2.kept.size;go_wp2_with fail;go_call XI B _ C T v D (k+3) A.o.st.rs AQ.o as E AU ⟨k6,vs,rfl,htr,e,Aa⟩;have AY:=A.o.blk.lt;replace A:=O (A.o.call e);have A0:=e.kept.size;obtain⟨a0,a1,a2,a3,a4,ad,an,ac,rfl⟩:=htr.BS;have By:=O Ym;have ZI:=O Aa;obtain⟨-,Al,Am,An,Ao,Ap,Aq,-⟩:=A.o.blk.fz;obtain⟨BA,BB,BC,BD,BE,BF,BG,_⟩:=A.o.blk.ST;have AY:=A.o.blk.lt;have D':=O (A.o.IP 1 a0 a1 a2 a3 (AR a4) (.slice ad an ac));have z:=O f_;have I:=O (H.o.to K.o D'.o.st);obtain⟨Af,Ab,hown⟩:=I.o.c5;have A7:=(H.o.to K.o A.o.st).blk.g7;have A_:=(H.o.to K.o A.o.st).blk.frozen 7;have Ax:=H.o.blk.lt;have Au:b≠W3.heap.size:=U;have As:b<AU.heap.size:=U;go_wp2_with (at_builtin;go_loud (refine ET AZ _ _ 149 221 AZ underlying149 (.agg #[(),(),(),(),(),.string .empty,AL]) 7 80 U U tG rfl ER _ x.red.length Af.flatten _ [Value.int .i64 P,.int .i64 a0,.int .i64 a1,.int .i64 a2,.int .i64 a3,AR a4,.slice ad an ac] rfl C2 rfl HP _ AZ AH U AM ?_);intro A6 w d Ar Z;obtain⟨X,Y,rfl⟩:=CG d;have N:=I.o.blk.grown Z (I.o.blk.apart hown AD);have A':=N.frozen 7;have At:=N.lt;have Ag:=N.cell 7;simp only[CH,A8,Bt] at Ag;have G:=O (CS.ACj (W:=W) D'.o.st.rs I.o SP Ab ⟨P,(Ek (AT T (k+3))).1⟩ ⟨_,rfl,z.o.mono (λg hg=>hg.1)⟩ hown d Z))
 have Jn:DE [C] ER W (w.setCell ⟨b,7,none⟩ (.slice X (x.red.length+1) Y)):=(DE.of D'.o.st.kept AW JK).trans G.o.low;generalize w.setCell ⟨b,7,none⟩ (.slice X (x.red.length+1) Y)=Aj at *;have AP:Hid ((AT T k6).Am [59]=true):=wD;go_call EH B _ C T v D k6 [59] G.o.rs rfl AP.o as E Ak ⟨rfl,M⟩;go_wp2_with fail;refine Lh (v:=.tuple #[]) SQ rfl ⟨rfl,k6+1,r,s,t,u,_,M.rs,G.o.BB.to G.o.rs M,Jn.trans (DE.of M.kept ?_ JK),?_⟩
 .exact Rf
 .rw[<-Cw,ZI.o,AS.o]
def tJ:(prog.info? 218).map (λi=>(i.zero,i.size,i.bytes))=some (some (.agg #[(),(),(),(),(),.string .empty,AL,(),(),(),(),.string .empty,AL]),13,152):=AF
def AJe(B:Nat)(W:AA)(C:Nat)(T:A9)(v:AB)(D:Int)(k ER b:Nat)(x:Ah)(Al Am An BW Ao:AB)(h:BM B W C T v D k)(BU:CS ER W b x Al Am An BW Ao)(BO:ER<=W.heap.size)(Bj:x.Ac.length<=9000)(AY:(Cy x (AT T k)).2.bad=false)
 (Ad:(AT T k).Am GJ=false)(Ae:(AT T k).Am Ie=false)(Af:(AT T k).Am Kt=false)(Ag:(AT T k).Am Ny=true):
 AI 158 #[.pointer C,.pointer b] W (P7 B W C T v D ER b (Cy x (AT T k))):=by
 have N:=AJn x (AT T k) Ad Ae Af Ag;rw[Cw] at N;rw[N] at AY;obtain⟨s,a,t⟩:=Rd.EC AY;obtain⟨o,Z,r⟩:=Rd.EC (XG a);obtain⟨Ai,Aj,Ak⟩:=Rd.EC (XG Z);obtain⟨Bs,Bx,_,Bw,Bu,Bv,m4⟩:=Rd.Qj Aj;have BV:((AT T (k+1)).of 2).2=AT T (k+2):=U9;rw[BV] at Ai Ak s a t o Z r N;have hw:(AT T (k+2)).want [105,102]=AT T (k+3):=by rw[Ak,Cw]
 rw[hw] at s a t o Z r N;rw[N];have Av:=O Ad;have Aw:=O Ae;have Ax:=O Af;have Ay:=O Ag;have A3:=O Ai;have A4:=O Aj;have Az:=O o;have A1:=O Z;have A2:=O r;have A5:=O s;have A7:=O a;have A':=O t;have S:=O BU;have d:=O h;have AO:=O R7;obtain⟨BA,c,rfl,Bi⟩:=h.slice;generalize BP:((AT T (k+1)).of 2).1=P at *;have Aq:=O BP;generalize Value.slice BA T.length c=v at *;go_in;go_wp2_with fail;go_call GU B _ C T v D k GJ AO.o.rs rfl Av.o as E AV ⟨rfl,Fe⟩;replace AO:=O Fn;go_wp2_with fail;go_call GU B _ C T v D k Ie AO.o.rs rfl Aw.o as E AV ⟨rfl,Fe⟩;replace AO:=O Fn;go_wp2_with fail;go_call GU B _ C T v D k Kt AO.o.rs rfl Ax.o as E AV ⟨rfl,Fe⟩;replace AO:=O Fn;go_wp2_with fail;go_call Hu B _ C T v D k Ny AO.o.rs rfl Ay.o as E W2 ⟨rfl,ht2⟩;replace AO:=O J';go_wp2_with fail;refine(TL B _ C T v D (k+1) 2 U AO.o.rs A4.o).mono ?_;rw[Aq.o];rintro E W3 ⟨rfl,ht2⟩;replace AO:=O J';go_wp2_with fail;have A:=O (D_.start AO.o 218 #[Value.int .i64 P,(),(),(),(),.string .empty,AL,(),(),(),(),.string .empty,AL] AD);have Bn:=AO.o.kept.size;go_call EH B _ C T v D (k+1+1) [105,102] A.o.st.rs rfl A3.o as E BZ ⟨rfl,ht2⟩;have Ab:=A.o.blk.lt;replace A:=O (A.o.call ht2);have Bo:=ht2.kept.size;have Bk:=A.o.blk.lt;go_wp2_with fail;go_call XI B _ C T v D (k+3) A.o.st.rs A1.o as E Y ⟨k6,vs,rfl,htr,Ac,BQ⟩;replace A:=O (A.o.call Ac);have Bp:=Ac.kept.size;obtain⟨a0,a1,a2,a3,a4,ad,an,ac,rfl⟩:=htr.BS;have By:=O Ym;have AS:=O BQ;have A0:Hid ((AT T k6).Am [112,97,121]=true):=by show _=_;rw[AS.o];exact Az.o
 have X:Hid (AT T (k6+1)=(Ek (AT T (k+3))).2.want [112,97,121]):=by show _=_;rw[A2.o,<-AS.o,Cw]
 have Ab:=A.o.blk.lt;have u:=A.o.blk.cell 0;have w:=A.o.blk.cell 1;have AE:=A.o.blk.cell 2;have AF:=A.o.blk.cell 3;have AG:=A.o.blk.cell 4;have AJ:=A.o.blk.cell 5;have AK:=A.o.blk.cell 6;have AN:=A.o.blk.cell 7;have AP:=A.o.blk.cell 8;have AQ:=A.o.blk.cell 9;have y:=A.o.blk.cell 10;have z:=A.o.blk.cell 11;have AC:=A.o.blk.cell 12;obtain⟨-,BB,BF,BG,BH,BI,BJ,BK⟩:=A.o.blk.fz;have BL:=A.o.blk.frozen 8;have BN:=A.o.blk.frozen 9;have BC:=A.o.blk.frozen 10;have BD:=A.o.blk.frozen 11;have BE:=A.o.blk.frozen 12;simp only[CH,A8,Bt] at u w AE AF AG AJ AK AN AP AQ y z AC;go_wp2_with fail;replace By:=O f_;have i:D_ B W ((((((Y.setCell ⟨W3,1,none⟩ a0).setCell ⟨W3,1+1,none⟩ a1).setCell ⟨W3,1+2,none⟩ a2).setCell ⟨W3,1+3,none⟩ a3).setCell ⟨W3,1+4,none⟩ (AR a4)).setCell ⟨W3,1+5,none⟩ (.slice ad an ac)) C T v D k6 W3 218 #[Value.int .i64 P,a0,a1,a2,a3,AR a4,.slice ad an ac,(),(),(),(),.string .empty,AL]:=A.o.IP 1 a0 a1 a2 a3 (AR a4) (.slice ad an ac);replace A:=O i;have BS:((((((Y.setCell ⟨W3,1,none⟩ a0).setCell ⟨W3,1+1,none⟩ a1).setCell ⟨W3,1+2,none⟩ a2).setCell ⟨W3,1+3,none⟩ a3).setCell ⟨W3,1+4,none⟩ (AR a4)).setCell ⟨W3,1+5,none⟩ (.slice ad an ac)).heap.size=Y.heap.size:=AH;generalize (((((Y.setCell ⟨W3,1,none⟩ a0).setCell ⟨W3,1+1,none⟩ a1).setCell ⟨W3,1+2,none⟩ a2).setCell ⟨W3,1+3,none⟩ a3).setCell ⟨W3,1+4,none⟩ (AR a4)).setCell ⟨W3,1+5,none⟩ (.slice ad an ac)=Ba at By A BS;go_call EH B _ C T v D k6 [112,97,121] A.o.st.rs rfl A0.o as E Bb ⟨rfl,l⟩;have At:=O (IH By.o A.o.st.rs l);replace A:=O (A.o.call l);have Bq:=l.kept.size;have Bl:=A.o.blk.lt;go_wp2_with fail;have A_:Hid ((Ek (AT T (k6+1))).2.bad=false):=by show _=_;rw[X.o];exact A7.o
 go_call XI B _ C T v D (k6+1) A.o.st.rs A_.o as E AW ⟨k9,vs,rfl,htr,m,BR⟩;have Au:=O (IH At.o A.o.st.rs m);replace A:=O (A.o.call m);have Br:=m.kept.size;obtain⟨F,G,H,I,J,L,M,K,rfl⟩:=htr.BS;have By:=O Ym;have AU:=O BR;have Ab:=A.o.blk.lt;have u:=A.o.blk.cell 0;have w:=A.o.blk.cell 1;have AE:=A.o.blk.cell 2;have AF:=A.o.blk.cell 3;have AG:=A.o.blk.cell 4;have AJ:=A.o.blk.cell 5;have AK:=A.o.blk.cell 6;have AN:=A.o.blk.cell 7;have AP:=A.o.blk.cell 8;have AQ:=A.o.blk.cell 9;have y:=A.o.blk.cell 10;have z:=A.o.blk.cell 11;have AC:=A.o.blk.cell 12;obtain⟨-,BB,BF,BG,BH,BI,BJ,BK⟩:=A.o.blk.fz;have BL:=A.o.blk.frozen 8;have BN:=A.o.blk.frozen 9;have BC:=A.o.blk.frozen 10;have BD:=A.o.blk.frozen 11;have BE:=A.o.blk.frozen 12;simp only[CH,A8,Bt] at u w AE AF AG AJ AK AN AP AQ y z AC;have i:D_ B W ((((((AW.setCell ⟨W3,7,none⟩ F).setCell ⟨W3,7+1,none⟩ G).setCell ⟨W3,7+2,none⟩ H).setCell ⟨W3,7+3,none⟩ I).setCell ⟨W3,7+4,none⟩ (AR J)).setCell ⟨W3,7+5,none⟩ (.slice L M K)) C T v D k9 W3 218 #[Value.int .i64 P,a0,a1,a2,a3,AR a4,.slice ad an ac,F,G,H,I,AR J,.slice L M K]:=A.o.IP 7 F G H I (AR J) (.slice L M K);have D':=O i;have As:=O (aL (q:=W3.heap.size) By.o (λg hg=>hg.2) 7 F G H I (AR J) (.slice L M K));have Ar:=O (aL (q:=W3.heap.size) Au.o (λg hg=>hg.2) 7 F G H I (AR J) (.slice L M K));have V:=O (S.o.to d.o D'.o.st);obtain⟨BX,BT,hown⟩:=V.o.c4;have B0:=(S.o.to d.o A.o.st).blk.g6;have B1:=(S.o.to d.o A.o.st).blk.frozen 6;have Bm:=S.o.blk.lt;have Bh:b≠W3.heap.size:=U;have Bf:b<AW.heap.size:=U;go_wp2_with (at_builtin;go_loud (refine ET AZ _ _ 148 218 AZ underlying148 (.agg #[(),(),(),(),(),.string .empty,AL,(),(),(),(),.string .empty,AL]) 13 152 U U tJ rfl ER _ x.Ac.length BX.flatten _ [.int .i64 P,.int .i64 a0,.int .i64 a1,.int .i64 a2,.int .i64 a3,AR a4,.slice ad an ac,.int .i64 F,.int .i64 G,.int .i64 H,.int .i64 I,AR J,.slice L M K] rfl C2 rfl HP _ AZ AH U AM ?_);intro Bz Ap Aa Be AX;obtain⟨e,f,rfl⟩:=CG Aa;have n:=V.o.blk.grown AX (V.o.blk.apart hown AD);have B2:=n.frozen 6;have Bg:=n.lt;have BY:=n.cell 6;simp only[CH,A8,Bt] at BY;have R:=O (CS.ACk (W:=W) D'.o.st.rs V.o SP BT ⟨P,(Ek (AT T (k+3))).1,(Ek (AT T (k6+1))).1⟩ ⟨[.int .i64 a0,.int .i64 a1,.int .i64 a2,.int .i64 a3,AR a4,.slice ad an ac],[.int .i64 F,.int .i64 G,.int .i64 H,.int .i64 I,AR J,.slice L M K],rfl,Ar.o.mono (λg hg=>hg.1),As.o.mono (λg hg=>hg.1)⟩ hown Aa AX))
 have Jn:DE [C] ER W (Ap.setCell ⟨b,6,none⟩ (.slice e (x.Ac.length+1) f)):=(DE.of D'.o.st.kept BO JK).trans R.o.low;generalize Ap.setCell ⟨b,6,none⟩ (.slice e (x.Ac.length+1) f)=Bc at *;have A6:Hid ((AT T k9).Am [59]=true):=by show _=_;rw[AU.o,X.o];exact A5.o
 go_call EH B _ C T v D k9 [59] R.o.rs rfl A6.o as E Bd ⟨rfl,j⟩;go_wp2_with fail;refine Lh (v:=.tuple #[]) SQ rfl ⟨rfl,k9+1,Al,Am,An,.slice e (x.Ac.length+1) f,Ao,j.rs,?_,Jn.trans (DE.of j.kept ?_ JK),?_⟩
 .have:=R.o.BB.to R.o.rs j;rw[X.o] at this;exact D2
 .exact Rf
 .rw[<-Cw,AU.o,X.o,A'.o]
def tF:(prog.info? 209).map (λi=>(i.zero,i.size,i.bytes))=some (some (.agg #[(),(),()]),3,24):=AF
def AIn{l:AE}{x:EP}{E:Int}(h:Ff l=some (x,E)):1<=x.d:=by
 unfold Ff at h;split at h
 .rename_i D A F _;have B:=congrArg Prod.fst (Ld h);simp only at B;rw[<-B];simp only[B8];have C:0<10 ^ A.length:=Nat.pow_pos AD;have:=Nat.div_pos (Tf C (Tq (10 ^ A.length) (Cc (D++A)))) (cJ _ C);omega
 .cases h
def D_.next{B:Nat}{W C:AA}{A:Nat}{T:A9}{v:AB}{D:Int}{k q t:Nat}{cs:Array AB}(h:D_ B W C A T v D k q t cs)(E:k<T.length):D_ B W (C.setCell ⟨A,1,none⟩ (.int .i64 ((k:Int)+1))) A T v D (k+1) q t cs:=
 h.call ⟨h.st.rs.next E,(AP.refl _ _).setCell AH _⟩
def BM.jj{B:Nat}{W:AA}{A:Nat}{T:A9}{v:AB}{D:Int}{k:Nat}(E:BM B W A T v D k)(J:0<T.length):∃g c,v=.slice (some ⟨g,0,none⟩) T.length c/\T.length<=c/\g<W.heap.size:=by
 rcases E.tok.2 with ⟨_,I⟩|⟨g,C,cur,H,_,G,F,_⟩
 .omega
 .exact⟨g,C,H,F,AG.lt (t:=259) (cs:=cur) G⟩
def AJb(B:Nat)(W:AA)(AV:Nat)(T:A9)(v:AB)(en:Int)(k ER b:Nat)(x:Ah)(s1 r s3 s4 As:AB)(h:BM B W AV T v en k)(l:CS ER W b x s1 r s3 s4 As)(hB:ER<=W.heap.size)(AQ:x.Ad.length<=9000)(G:(Cy x (AT T k)).2.bad=false)
 (P:(AT T k).Am GJ=false)(Q:(AT T k).Am Ie=true):
 AI 158 #[.pointer AV,.pointer b] W (P7 B W AV T v en ER b (Cy x (AT T k))):=by
 obtain⟨x',q,F,AY,E,C⟩:=AJi x (AT T k) P Q G;rw[Cw] at C F E;rw[C] at G;obtain⟨H,R,I⟩:=Rd.EC G;obtain⟨Ab,Ag,_,Ac,Ad,Ae,Af,m⟩:=Rd.QG E;have n:((AT T (k+1)).whole 1900 2099).2=AT T (k+2):=by rw[m,Cw]
 rw[n] at H R I C F;rw[Cw] at H R I C;rw[C];obtain⟨hk,e1,d⟩:=Vf F;obtain⟨M,AR⟩:=aM h.ok hk e1 d;have AJ:=AIn M;have AE:(x'.d==0)=false:=AM;have GO:=O (O1 hk e1);obtain⟨g,c,rfl,AC,AL⟩:=h.jj U;have y:=h.few;generalize j:T[k+2].2.1=t at *;have By:=O j;have J:=O (show Ff (ByteArray.mk t.toArray).data.toList=some (x',2) by simpa using M);have N:(ByteArray.mk t.toArray).size<=1000000000000000000:=hO;have V:=O P;have Z:=O Q;have P2:=O E;have Q1:=O H;have N5:=O I;have CT:=O l;have CM:=O h;have AO:=O R7;generalize i:((AT T (k+1)).whole 1900 2099).1=nm at *;have wT:=O i;go_in;go_wp2_with fail;go_call GU B _ AV T _ en k GJ AO.o.rs rfl V.o as e s ⟨rfl,Fe⟩;replace AO:=O Fn;go_wp2_with fail;go_call Hu B _ AV T _ en k Ie AO.o.rs rfl Z.o as e A ⟨rfl,ht2⟩;replace AO:=O J';go_wp2_with fail;refine(SY B _ AV T _ en (k+1) 1900 2099 AO.o.rs P2.o).mono ?_;rw[wT.o];rintro e a ⟨rfl,ht2⟩;replace AO:=O J';go_wp2_with fail;have A2:=O (D_.start AO.o 209 #[Value.int .i64 nm,(),()] AD);have Aa:=AO.o.kept.size;generalize AHV:a.heap.size=UG at *;refine(O0 B _ AV T _ en (k+2) 2 A2.o.st.rs).mono ?_;rw[GO.o];rintro e W1 ⟨rfl,hb1⟩;replace A2:=O Y8;have L6:=O A2.o.st.rs;go_wp2_with fail;refine fP ?_;refine Bn (λX=>BM B X AV T (.slice g T.length c) en (k+2)/\Below W1 W1 X) (w0:=W1.drew) ⟨L6.o.below (AN _ _).drew,(AN _ _).drew⟩ ?_;intro A ⟨hr2,hb2⟩;have hz2:=hb2.size;have AS:=L6.o.blk.lt;obtain⟨AP,_,_,_⟩:=L6.o.ND rfl hk;have u:A.cell? ⟨AV,0,none⟩=some (.slice g T.length c):=hr2.blk.cell 0;have w:A.cell? ⟨AV,1,none⟩=some (.int .i64 ((k+2:Nat):Int)):=hr2.blk.cell 1;obtain⟨hg2,_,o,AX⟩:=hr2.ND rfl hk;rw[By.o] at o;have AU:=hr2.blk.lt;have OG:=O hr2;have U1:Hid True:=trivial;repeat refine Ky ?_
 refine bH ?_ ?_
 .refine Fl ?_;intro K hK;go_at_call 154;go_call RR _ x' 2 _ N J.o as e L ⟨rfl,hb4⟩;refine hK _ _ _ AK (hb4.mono hz2) ?_;have S:=O (OG.o.below hb4);have f:=AW hb2 hb4;have RG:=hb4.size;repeat refine Ky ?_
  refine Fl ?_;intro K hK;refine hK _ _ _ AK fU ?_;have An:=O (Num.made S.o f);refine Bn (λX=>Num B W1 X AV T (.slice g T.length c) en (k+2) L 0 0) An.o ?_;intro X D;have An:=O D;obtain⟨c0,c1,f0,f1⟩:=Fb An.o.blk;have hbl:=An.o.blk.lt;refine Fl ?_;intro K hK;refine hK _ _ _ AK fT ?_;exact ua
 .refine Fl ?_;intro K hK;refine hK _ _ _ AK gD ?_;have An:=O (Num.made OG.o hb2);refine Bn (λX=>Num B W1 X AV T (.slice g T.length c) en (k+2) A 0 0/\A.heap.size<=X.heap.size) ⟨An.o,AH⟩ ?_;intro X ⟨D,cT⟩;refine Fl ?_;intro K hK;go_at_call 154;go_call RR _ x' 2 _ N J.o as e L ⟨rfl,hb4⟩;refine hK _ _ _ AK (hb4.mono gC) ?_;have An:=O (D.below hb4);repeat refine Ky ?_
  obtain⟨c0,c1,f0,f1⟩:=Fb An.o.blk;have hbl:=An.o.blk.lt;refine Fl ?_;intro K hK;refine hK _ _ _ AK gM ?_;exact ua
def e_:(prog.info? 206).map (λi=>(i.zero,i.size,i.bytes))=some (some (.agg #[(),()]),2,16):=AF
def AJg(B:Nat)(W:AA)(C:Nat)(T:A9)(v:AB)(D:Int)(k F b:Nat)(x:Ah)(AV l m n o:AB)(h:BM B W C T v D k)(AQ:CS F W b x AV l m n o)(AJ:F<=W.heap.size)(Al:x.Ae.length<=9000)(f:(Cy x (AT T k)).2.bad=false)
 (i:(AT T k).Am GJ=true)(K:((AT T (k+1)).of 1).2.Am Rb=true):
 AI 158 #[.pointer C,.pointer b] W (P7 B W C T v D F b (Cy x (AT T k))):=by
 have E:=od x (AT T k) i;rw[Cw,Ab K] at E;rw[E] at f;obtain⟨M,N,P⟩:=Rd.EC f;have j:((AT T (k+1)).of 1).2.bad=false:=Rd.mg K;obtain⟨Ar,A0,_,Az,Au,Av,m4⟩:=Rd.Qj j;have AU:((AT T (k+1)).of 1).2=AT T (k+2):=U9;rw[AU] at K M N P E;rw[Cw] at M N P E;obtain⟨Aw,A5,_,Ax,Ay,As,At,AR⟩:=Rd.QG N;have AS:((AT T (k+2+1)).whole 1 73049).2=AT T (k+2+1+1):=by rw[AR,Cw]
 rw[AS] at M P E;rw[E];have u:=O i;have w:=O K;have y:=O j;have z:=O N;have AC:=O M;have AE:=O P;have Q:=O AQ;have a:=O h;have AO:=O R7;obtain⟨AG,c,rfl,Ak⟩:=h.slice;generalize AL:((AT T (k+1)).of 1).1=L at *;have s:=O AL;generalize AN:((AT T (k+2+1)).whole 1 73049).1=G at *;have t:=O AN;generalize Value.slice AG T.length c=v at *;go_in;go_wp2_with fail;go_call Hu B _ C T v D k GJ AO.o.rs rfl u.o as J W2 ⟨rfl,ht2⟩;replace AO:=O J';go_wp2_with fail;refine(TL B _ C T v D (k+1) 1 U AO.o.rs y.o).mono ?_;rw[s.o];rintro J AF ⟨rfl,ht2⟩;replace AO:=O J';go_wp2_with fail;have A:=O (D_.start AO.o 206 #[Value.int .i64 L,()] AD);have Aq:=AO.o.kept.size;generalize Ai:AF.heap.size=S at *;go_call Hu B _ C T v D (k+2) Rb A.o.st.rs rfl w.o as J AY ⟨rfl,ht2⟩;replace A:=O (A.o.call ht2);go_wp2_with fail;refine(SY B _ C T v D (k+2+1) 1 73049 A.o.st.rs z.o).mono ?_;rw[t.o];rintro J d ⟨rfl,ht2⟩;replace A:=O (A.o.call ht2);have Ad:=A.o.blk.frozen 1;have An:=A.o.blk.lt;have A_:=A.o.blk.g1;have AK:D_ B W (d.setCell ⟨S,1,none⟩ G) C T v D (k+2+1+1) S 206 #[Value.int .i64 L,G]:=A.o.put 1 G;have D':=O AK;have I:=O (Q.o.to a.o D'.o.st);obtain⟨AW,AP,hown⟩:=I.o.c1;have Y:=Q.o.to a.o A.o.st;have A2:=Y.blk.g3;have A3:=Y.blk.frozen 3;have Af:=Y.blk.lt;have Ap:=Q.o.blk.lt;have Ao:=A.o.lo;have Aj:b≠S:=U;obtain⟨A6,A7,_⟩:=A.o.blk.y2;have Am:Hid (W.heap.size<=d.heap.size):=A.o.st.kept.size;go_wp2_with (at_builtin;go_loud (refine ET AZ _ _ 145 206 AZ underlying145 (.agg #[(),()]) 2 16 U U e_ rfl F _ x.Ae.length AW.flatten _ [.int .i64 L,.int .i64 G] rfl C2 rfl HP _ AZ AH U AM ?_);intro A1 r g Ae e;obtain⟨R,V,rfl⟩:=CG g;have Z:=I.o.blk.grown e (I.o.blk.apart hown AD);have A4:=Z.frozen 3;have Ag:=Z.lt;have AX:=Z.cell 3;simp only[CH,A8,Bt] at AX;have H:=O (CS.Fy (W:=W) D'.o.st.rs I.o SP AP ⟨L,G⟩ rfl hown g e))
 have Jn:DE [C] F W (r.setCell ⟨b,3,none⟩ (.slice R (x.Ae.length+1) V)):=(DE.of D'.o.st.kept AJ JK).trans H.o.low;generalize r.setCell ⟨b,3,none⟩ (.slice R (x.Ae.length+1) V)=Aa at *;go_call EH B _ C T v D (k+2+1+1) [59] H.o.rs rfl AC.o as J Ac ⟨rfl,X⟩;go_wp2_with fail;refine Lh (v:=.tuple #[]) SQ rfl ⟨rfl,k+2+1+1+1,.slice R (x.Ae.length+1) V,l,m,n,o,X.rs,H.o.BB.to H.o.rs X,Jn.trans (DE.of X.kept ?_ JK),?_⟩
 .exact Rf
 .rw[<-Cw,AE.o]
def AJf(B:Nat)(W:AA)(C:Nat)(T:A9)(v:AB)(E:Int)(k F b:Nat)(x:Ah)(AK a d e f:AB)(h:BM B W C T v E k)(AG:CS F W b x AK a d e f)(y:F<=W.heap.size)(Ab:x.Ae.length<=9000)(R:(Cy x (AT T k)).2.bad=false)
 (V:(AT T k).Am GJ=true)(N:((AT T (k+1)).of 1).2.Am Rb=false):
 AI 158 #[.pointer C,.pointer b] W (P7 B W C T v E F b (Cy x (AT T k))):=by
 have H:=od x (AT T k) V;rw[Cw,N,AU AD] at H;rw[H] at R;obtain⟨X,Y,Z⟩:=Rd.EC R;obtain⟨Ae,Aj,_,Ai,Af,Ag,m4⟩:=Rd.Qj Y;have AJ:((AT T (k+1)).of 1).2=AT T (k+2):=U9;have o:=O Y;rw[AJ] at N X Z H;rw[H];have m:=O V;have n:=O N;have r:=O X;have s:=O Z;have l:=O AG;have j:=O h;have AO:=O R7;obtain⟨w,c,rfl,Aa⟩:=h.slice;generalize AE:((AT T (k+1)).of 1).1=P at *;have i:=O AE;generalize Value.slice w T.length c=v at *;go_in;go_wp2_with fail;go_call Hu B _ C T v E k GJ AO.o.rs rfl m.o as K W2 ⟨rfl,ht2⟩;replace AO:=O J';go_wp2_with fail;refine(TL B _ C T v E (k+1) 1 U AO.o.rs o.o).mono ?_;rw[i.o];rintro K t ⟨rfl,ht2⟩;replace AO:=O J';go_wp2_with fail;have A:=O (D_.start AO.o 206 #[Value.int .i64 P,()] AD);have Ad:=AO.o.kept.size;generalize AY:t.heap.size=AR at *;go_call GU B _ C T v E (k+2) Rb A.o.st.rs rfl n.o as K u ⟨rfl,z⟩;replace A:=O (A.o.below z);have D:=O (l.o.to j.o A.o.st);obtain⟨AL,AF,hown⟩:=D.o.c1;obtain⟨AQ,AS,rfl⟩:=CG hown;have Al:=D.o.blk.g3;have Am:=D.o.blk.frozen 3;have AW:=D.o.blk.lt;obtain⟨Ao,Ap,_⟩:=A.o.blk.y2;have Ac:=A.o.blk.lt;have AC:Hid (W.heap.size<=u.heap.size):=A.o.st.kept.size;go_wp2_with (at_builtin;go_loud (refine ET AZ _ _ 145 206 AZ underlying145 (.agg #[(),()]) 2 16 U U e_ rfl F _ x.Ae.length AL.flatten _ [.int .i64 P,.int .i64 0] rfl C2 rfl HP _ AZ AH U (by have:=AC.o;omega) ?_);intro Ak g S AV Q;obtain⟨I,J,rfl⟩:=CG S;have M:=D.o.blk.grown Q (D.o.blk.apart hown AD);have An:=M.frozen 3;have AX:=M.lt;have AM:=M.cell 3;simp only[CH,A8,Bt] at AM;have G:=O (CS.Fy (W:=W) A.o.st.rs D.o (by have:=A.o.size;omega) AF ⟨P,0⟩ rfl hown S Q))
 have Jn:DE [C] F W (g.setCell ⟨b,3,none⟩ (.slice I (x.Ae.length+1) J)):=(DE.of A.o.st.kept y JK).trans G.o.low;generalize g.setCell ⟨b,3,none⟩ (.slice I (x.Ae.length+1) J)=AN at *;go_call EH B _ C T v E (k+2) [59] G.o.rs rfl r.o as K AP ⟨rfl,L⟩;go_wp2_with fail;refine Lh (v:=.tuple #[]) SQ rfl ⟨rfl,k+2+1,.slice I (x.Ae.length+1) J,a,d,e,f,L.rs,G.o.BB.to G.o.rs L,Jn.trans (DE.of L.kept ?_ JK),?_⟩
 .exact Rf
 .rw[<-Cw,s.o]
def AJh(B:Nat)(W:AA)(C:Nat)(T:A9)(v:AB)(D:Int)(k A b:Nat)(x:Ah)(H I J K L:AB)(M:BM B W C T v D k)(O:CS A W b x H I J K L)(N:A<=W.heap.size)
 (R:x.Ae.length<=9000)(U:x.Ad.length<=9000)(V:x.lets.length<=9000)(X:x.Ac.length<=9000)(Y:x.red.length<=9000)(E:(Cy x (AT T k)).2.bad=false):
 AI 158 #[.pointer C,.pointer b] W (P7 B W C T v D A b (Cy x (AT T k))):=by
 cases G:(AT T k).Am GJ with
 | true=>
  cases F:((AT T (k+1)).of 1).2.Am Rb with
  | true=>exact AJg B W C T v D k A b x H I J K L M O N R E G F
  | false=>exact AJf B W C T v D k A b x H I J K L M O N R E G F
 | false=>
  cases F:(AT T k).Am Ie with
  | true=>exact AJb B W C T v D k A b x H I J K L M O N U E G F
  | false=>
   cases P:(AT T k).Am Kt with
   | true=>exact AJd B W C T v D k A b x H I J K L M O N V E G F P
   | false=>
    cases Q:(AT T k).Am Ny with
    | true=>exact AJe B W C T v D k A b x H I J K L M O N X E G F P Q
    | false=>
     cases S:(AT T k).Am [114,101,100,117,99,101] with
     | true=>exact AJc B W C T v D k A b x H I J K L M O N Y E G F P Q S
     | false=>rw[AJk x (AT T k) G F P Q S] at E;cases E
section
variable{B' m:Nat}
def AIq(l:AE)(n:Nat)(w:AA)(D:1<=l.length/\l.length<=100)(h:KU (l.drop 1)=some n):
 AI 156 #[.string ⟨l.toArray⟩] w λe w'=>e=.returned n/\w=w':=by
 have C:=O (show KU ((ByteArray.mk l.toArray).extract 1 (ByteArray.mk l.toArray).size).data.toList=some n by
  rw[nk _ _ (by show 1<=l.toArray.size;simp;omega)];simpa using h)
 have E:(ByteArray.mk l.toArray).size=l.length:=by show l.toArray.size=_;simp
 have A:1<=(ByteArray.mk l.toArray).size/\(ByteArray.mk l.toArray).size<=100:=U;clear h D E;generalize ByteArray.mk l.toArray=G at *;obtain⟨A,F⟩:=A;go_in;go_wp2_with (go_at_call 213;refine(lS _ n _ C.o).mono ?_;rintro e w' ⟨rfl,rfl⟩)
 exact H7
structure B5(B:Nat)(w:AA)(x:Ah)(s1 s2 s3 s4 As:AB):Prop where
 c1:AS B w 206 2 FX x.Ae s1
 c2:AS B w 209 3 Fj x.Ad s2
 c3:AS B w 215 7 (D9 (λg=>B<=g) w) x.lets s3
 c4:AS B w 218 13 (D4 (λg=>B<=g) w) x.Ac s4
 c5:AS B w 221 7 (EO (λg=>B<=g) w) x.red As
section
variable {B:Nat} {w w':AA} {b:Nat} {x:Ah} {s1 s2 s3 s4 As:AB}
def CS.lists(A:CS B w b x s1 s2 s3 s4 As):B5 B w x s1 s2 s3 s4 As:=⟨A.c1,A.c2,A.c3,A.c4,A.c5⟩
def AS.mt{α:Type}{B:Nat}{w:AA}{t:Nat}{A:α->List AB->Prop}: AS B w t m A [] AL:=⟨[],.nil,Ia _ _ _ _⟩
def B5.set(h:B5 B w x s1 s2 s3 s4 As){q:Nat}{cs:Array AB}(J:AG w q 151 cs)(i:Nat)(u:AB):B5 B (w.setCell ⟨q,i,none⟩ u) x s1 s2 s3 s4 As:=by
 have D:AP [q] w (w.setCell ⟨q,i,none⟩ u):=(AP.refl _ _).setCell AH _;have E:∀A G cs,AG w A G cs->G≠151->A∉[q]:=λA G cs C I H=>by
  simp only[Aj,A',A_] at H;subst H;exact I (C.same J)
 have F:∀A cs,AG w A 213 cs->A∉[q]:=λA cs C=>E A _ cs C AD;exact⟨h.c1.kept D (λA cs C=>E A _ cs C AD) BW,h.c2.kept D (λA cs C=>E A _ cs C AD) BW,
  h.c3.kept D (λA cs C=>E A _ cs C AD) (λ_ _ q=>q.kept D F),h.c4.kept D (λA cs C=>E A _ cs C AD) (λ_ _ q=>q.kept D F),h.c5.kept D (λA cs C=>E A _ cs C AD) (λ_ _ q=>q.kept D F)⟩
def CS.z'(A:CS B w b x s1 s2 s3 s4 As)(n:Int):CS B (w.setCell ⟨b,0,none⟩ n) b { x with fr:=n } s1 s2 s3 s4 As:=
 have k:=A.lists.set A.blk 0 n;⟨A.blk.put 0 _,A.lo,k.c1,k.c2,k.c3,k.c4,k.c5⟩
def CS.z_(A:CS B w b x s1 s2 s3 s4 As)(n:Int):CS B (w.setCell ⟨b,1,none⟩ n) b { x with mode:=n } s1 s2 s3 s4 As:=
 have k:=A.lists.set A.blk 1 n;⟨A.blk.put 1 _,A.lo,k.c1,k.c2,k.c3,k.c4,k.c5⟩
def CS.z8(A:CS B w b x s1 s2 s3 s4 As)(n:Int):CS B (w.setCell ⟨b,2,none⟩ n) b { x with unit:=n } s1 s2 s3 s4 As:=
 have k:=A.lists.set A.blk 2 n;⟨A.blk.put 2 _,A.lo,k.c1,k.c2,k.c3,k.c4,k.c5⟩
def BM.iv{AV:Nat}{T:A9}{v:AB}{en:Int}{k q:Nat}{cs:Array AB}(E:BM B' w AV T v en k)(h:AG w q 151 cs)(i:Nat)(u:AB):BM B' (w.setCell ⟨q,i,none⟩ u) AV T v en k:=
 E.kept ((AP.refl [q] w).setCell AH _) (λG H cs D F C=>by
  simp only[Aj,A',A_] at C;subst C;have:=D.same h;subst this;rcases F with A|A<;>exact absurd A AD)
def AS.slice{α:Type}{t:Nat}{C:α->List AB->Prop}{A:List α}{v:AB}(h:AS B w t m C A v):∃a c,v=.slice a A.length c/\A.length<=c:=by
 obtain⟨H,_,E⟩:=h;rcases E.2 with ⟨rfl,h0⟩|⟨G,D,cur,rfl,_,_,F,_⟩
 .exact⟨none,0,Ux,U⟩
 .exact⟨_,D,rfl,F⟩
def F_{n size:Nat}{e:TypeId}{v:AB}{C:List AB}(F:w.ownsRow B e size v n C)(I:B'<=B):w.ownsRow B' e size v n C:=by
 obtain⟨G,A⟩:=F;refine⟨G,?_⟩;rcases A with A|⟨E,D,cur,rfl,H,rest⟩
 .exact .inl A
 .exact .inr ⟨E,D,cur,rfl,Ap I H,rest⟩
def AS.lower{α:Type}{t:Nat}{C R':α->List AB->Prop}{A:List α}{v:AB}(D:AS B w t m C A v)(G:B'<=B)(H:∀x u,C x u->R' x u):AS B' w t m R' A v:=by
 obtain⟨I,E,F⟩:=D;exact⟨I,E.mono H,F_ F G⟩
def B5.lower(h:B5 B w x s1 s2 s3 s4 As)(A:B'<=B):B5 B' w x s1 s2 s3 s4 As:=by
 have ck:∀C,B<=C->B'<=C:=λC G=>Ap A G;refine⟨h.c1.lower A BW,h.c2.lower A BW,h.c3.lower A (λE D q=>?_),h.c4.lower A (λE D q=>?_),h.c5.lower A (λE D q=>?_)⟩
 .exact pk
 .obtain⟨vs,H,h1,h2,F⟩:=q;exact⟨vs,H,h1,h2.mono ck,F.mono ck⟩
 .exact pk
end
structure Hj(B:Nat)(W X:AA)(AV:Nat)(T:A9)(v:AB)(en:Int)(k b:Nat)(x:Ah)(s1 s2 s3 s4 As:AB):Prop where
 rs:BM B X AV T v en k
 BB:CS W X b x s1 s2 s3 s4 As
 low:DE [AV] W W X
section
variable {B:Nat} {W X Y:AA} {AV:Nat} {T:A9} {v:AB} {en:Int} {k k' b:Nat} {x:Ah} {s1 s2 s3 s4 As:AB}
def Hj.to(h:Hj B W X AV T v en k b x s1 s2 s3 s4 As)(A:To B X Y AV T v en k'):Hj B W Y AV T v en k' b x s1 s2 s3 s4 As:=
 ⟨A.rs,h.BB.to h.rs A,h.low.trans (DE.of A.kept h.low.size JK)⟩
def Hj.below(h:Hj B W X AV T v en k b x s1 s2 s3 s4 As)(hb:Below X X Y):Hj B W Y AV T v en k b x s1 s2 s3 s4 As:=
 ⟨h.rs.below hb,h.BB.below hb,h.low.trans (DE.of (H9:=[]) CX h.low.size (λC A _=>by cases A))⟩
def Hj.set(h:Hj B W X AV T v en k b x s1 s2 s3 s4 As)(i:Nat)(u:AB){C:Ah}(D:CS W (X.setCell ⟨b,i,none⟩ u) b C s1 s2 s3 s4 As):Hj B W (X.setCell ⟨b,i,none⟩ u) AV T v en k b C s1 s2 s3 s4 As:=
 ⟨h.rs.iv h.BB.blk i u,D,h.low.trans (DE.of (H9:=[b]) Us h.low.size (λF A E=>by
  simp only[Aj,A',A_] at A;subst A;have:=h.BB.lo;omega))⟩
def Hj.next(h:Hj B W X AV T v en k b x s1 s2 s3 s4 As)(A:k<T.length):Hj B W (X.setCell ⟨AV,1,none⟩ (.int .i64 ((k:Int)+1))) AV T v en (k+1) b x s1 s2 s3 s4 As:=
 h.to ⟨h.rs.next A,(AP.refl _ _).setCell AH _⟩
end
structure ZX(B:Nat)(W X:AA)(AV:Nat)(T:A9)(v:AB)(en:Int)(k q:Nat)(cs:Array AB)(x:Ah)(s1 s2 s3 s4 As:AB):Prop where
 rs:BM B X AV T v en k
 lists:B5 W X x s1 s2 s3 s4 As
 blk:AG X q 151 cs
 kept:AP [AV] W X
def ZX.put{B:Nat}{W X:AA}{AV:Nat}{T:A9}{v:AB}{en:Int}{k q:Nat}{cs:Array AB}{x:Ah}{s1 s2 s3 s4 As:AB}(h:ZX B W X AV T v en k q cs x s1 s2 s3 s4 As)(A:W.heap.size<=q)(i:Nat)(u:AB):
 ZX B W (X.setCell ⟨q,i,none⟩ u) AV T v en k q (cs.setIfInBounds i u) x s1 s2 s3 s4 As:=by
 refine⟨h.rs.iv h.blk i u,h.lists.set h.blk i u,h.blk.put i u,?_⟩;have hk:AP [q] X (X.setCell ⟨q,i,none⟩ u):=(AP.refl [q] X).setCell AH _;have PH:=h.kept;exact s7
def ALO(B:Nat)(W:AA)(AV:Nat)(T:A9)(v:AB)(en:Int)(b:Nat)(C:Ah × Rd)(A:Nat)(X:AA):Prop:=
 ∃(k:Nat) (x:Ah) (s1 s2 s3 s4 As:AB),Hj B W X AV T v en k b x s1 s2 s3 s4 As/\T.length<A+k/\x.Ae.length<=k/\x.Ad.length<=k/\x.lets.length<=k/\x.Ac.length<=k/\x.red.length<=k/\Hid (C=Ib A x (AT T k))
def ALP(B:Nat)(W:AA)(AV:Nat)(T:A9)(v:AB)(en:Int)(r:Ah × Rd)(e:Ending)(A:AA):Prop:=
 ∃(k:Nat) (s1 s2 s3 s4 As:AB),e=.returned (.agg #[.int .i64 r.1.fr,.int .i64 r.1.mode,.int .i64 r.1.unit,s1,s2,s3,s4,As])/\B5 W A r.1 s1 s2 s3 s4 As/\To B W A AV T v en k/\AT T k=r.2
def On(T:A9)(k:Nat):(AT T k).l.length=T.length-k:=by simp[AT,E6]
def zv:(prog.info? 151).map (·.size)=some 8:=AF
def jy(B:Nat)(W:AA)(AV:Nat)(T:A9)(v:AB)(en:Int)(k:Nat)(h:BM B W AV T v en k)(N:(CY (AT T k)).2.bad=false):
 AI 90 #[.pointer AV] W (ALP B W AV T v en (CY (AT T k))):=by
 (iterate 70 have:=Az B);obtain⟨BT,H,q,AQ,AR,AW,AX,AY,AZ,S⟩:=jB N;simp only[Cw] at AQ AR AW AX AY AZ S;rw[S] at N;generalize Bl:CY (AT T k)=Ar at *;obtain⟨AJ,j,AC⟩:=yv AQ;have BL:Jg (T[k+1].1,T[k+1].2.1):=h.ok _ (Gr.2 ⟨T[k+1],Gq _,rfl⟩);have BI:KU (T[k+1].2.1.drop 1)=some H/\T[k+1].2.1.length=11:=by
  rcases BL with ⟨R,_⟩|⟨R,_⟩|⟨_,BB,BC,_⟩|⟨R,_⟩
  .simp only at R;omega
  .simp only at R;omega
  .simp only at BB BC;refine⟨?_,BB⟩;obtain⟨B4,Bm⟩:=Wa.1 BC;rw[Bm] at AC ⊢;exact congrArg some AC
  .simp only at R;omega
 have Ad:=O (O1 AJ j);generalize a:T[k+1].2.1=Aa at *;have Ag:=O a;have BN:1<=Aa.length/\Aa.length<=100:=U;have Ac:=O (λw=>AIq Aa H w BN BI.1);have CC:=h.few;have Bc:Hid (Ar.2.bad=false):=by show _=_;rw[S];exact N
 have Ai:=O S;have Ak:=O BT;have Al:=O AR;have Am:=O AW;have An:=O AX;have Ao:=O AY;have Aq:=O AZ;obtain⟨Q,c,rfl,CL,CM⟩:=h.jj U;have CJ:=h.blk.lt;have AE:=(AN W W).alloc AK (.cells #[(),(),(),AL,AL,AL,AL,AL] 151);have BA:=h.below AE;have BO:=AG.new W 151 #[(),(),(),AL,AL,AL,AL,AL];have BR:(W.alloc (.cells #[(),(),(),AL,AL,AL,AL,AL] 151)).heap.size=W.heap.size+1:=AH;have Ae:Hid (∀X,X=W.alloc (.cells #[(),(),(),AL,AL,AL,AL,AL] 151)->Below W W X/\AG X W 151 #[(),(),(),AL,AL,AL,AL,AL]):=by
  rintro X rfl;exact⟨AE,BO⟩
 generalize BF:W.alloc (.cells #[(),(),(),AL,AL,AL,AL,AL] 151)=D at *;have Bd:=O (Ae.o D rfl);have Bg:=O BF;have A:Hid (Hj B D (D.alloc (.cells #[(),(),(),AL,AL,AL,AL,AL] 151)) AV T (.slice Q T.length c) en k D {} AL AL AL AL AL):=by
  have hal:=(AN D D).alloc AK (.cells #[(),(),(),AL,AL,AL,AL,AL] 151);exact⟨BA.below hal,⟨AG.new D _ _,Bh _,AS.mt,AS.mt,AS.mt,AS.mt,AS.mt⟩,DE.of (H9:=[]) ft AK (λq Bu _=>by cases Bu)⟩
 have BP:D.heap.size=W.heap.size+1:=BR;clear h N BT AQ AR AW AX AY AZ S BL BI j AC a BN Bl AE BA BO BR Ae BF;go_in;go_wp2_with fail;rw[Bg.o];have Af:=O BP;generalize l:W.heap.size+1=b at *;have CT:W.heap.size<b:=U;rw[Af.o] at A;clear l BP;refine(EH B _ AV T _ en k [102,114,111,109] A.o.rs rfl Ak.o).mono ?_;rintro E B3 ⟨rfl,C⟩;replace A:=O (A.o.to C);clear C;go_wp2_with fail;refine(O0 B _ AV T _ en (k+1) 3 A.o.rs).mono ?_;rw[Ad.o];rintro E Bj ⟨rfl,BG⟩;replace A:=O (A.o.below BG);clear BG;go_wp2_with fail;refine iT (.q 0 (.q 1 (.q 2 (.q 3 (.q 4 (.q 5 (.q 6 (.q 7 (.q 8 (.q 9 (.q 10 (.l 11 (.q 12 (.l 13 .nil)))))))))))))) b AF AF AF AF BK ?_;simp only[Pl.ops,A8,Bt];refine Bn (λX=>Hj B D X AV T (.slice Q T.length c) en (k+1) b {} AL AL AL AL AL) (w0:=Bj.drew) (A.o.below (AN _ _).drew) ?_;clear A;intro g J;have A:=O J;have Bk:g.cell? ⟨AV,0,none⟩=some (.slice Q T.length c):=J.rs.blk.cell 0;have i:g.cell? ⟨AV,1,none⟩=some (.int .i64 ((k+1:Nat):Int)):=J.rs.blk.cell 1;obtain⟨Bo,_,BU,Br⟩:=J.rs.ND rfl AJ;rw[Ag.o] at BU;have Bp:=J.rs.blk.lt;have CK:AV<b:=U;have CN:Q<b:=U;clear J;repeat refine Ky ?_
 refine Fl ?_;intro K hK;go_at_call 156;refine(Ac.o _).mono ?_;rintro E Bz ⟨rfl,rfl⟩;refine JG ?_;clear hK K Bk BU Bo;repeat refine Ky ?_
 have Bb:=A.o.BB.blk.frozen 0;have Ba:g.cell? ⟨b,0,none⟩=some (():AB):=A.o.BB.blk.cell 0;have V:=A.o.BB.blk.lt;refine Fl ?_;intro K hK;refine hK _ _ _ AK ((AN b _).setCell (p:=⟨b,0,none⟩) (Bh b) _) ?_;clear hK K;refine WB ?_;replace A:=O (A.o.set 0 H (A.o.BB.z' H));clear i Bb Ba V Bp Br;generalize g.setCell ⟨b,0,none⟩ H=P at *;clear Ac Ag Ad Ak;generalize k+1=F at *;have j:P.cell? ⟨AV,1,none⟩=some (.int .i64 (F:Int)):=A.o.rs.blk.cell 1;have A7:=A.o.rs.blk.frozen 1;have o:=A.o.rs.blk.lt;go_wp2_with fail;replace A:=O (A.o.next AJ);clear j A7 o;generalize P.setCell ⟨AV,1,none⟩ (.int .i64 ((F:Int)+1))=Av at *;refine(EH B _ AV T _ en (F+1) [123] A.o.rs rfl Al.o).mono ?_;rintro E B0 ⟨rfl,C⟩;replace A:=O (A.o.to C);clear C;go_wp2_with fail;refine(EH B _ AV T _ en (F+1+1) [114,111,117,110,100] A.o.rs rfl Am.o).mono ?_;rintro E B1 ⟨rfl,C⟩;replace A:=O (A.o.to C);clear C;go_wp2_with fail;refine(TL B _ AV T _ en (F+1+1+1) 3 U A.o.rs An.o).mono ?_;rintro E Au ⟨rfl,C⟩;replace A:=O (A.o.to C);clear C;generalize CR:((AT T (F+1+1+1)).of 3).1=d at *;have s:=A.o.BB.blk.frozen 1;have r:Au.cell? ⟨b,1,none⟩=some (():AB):=A.o.BB.blk.cell 1;have V:=A.o.BB.blk.lt;go_wp2_with fail;replace A:=O (A.o.set 1 d (A.o.BB.z_ d));clear s r V;generalize Au.setCell ⟨b,1,none⟩ d=B2 at *;refine(SY B _ AV T _ en (F+1+1+1+1) 1 100000 A.o.rs Ao.o).mono ?_;rintro E At ⟨rfl,C⟩;replace A:=O (A.o.to C);clear C;generalize CS:((AT T (F+1+1+1+1)).whole 1 100000).1=e at *;have s:=A.o.BB.blk.frozen 2;have r:At.cell? ⟨b,2,none⟩=some (():AB):=A.o.BB.blk.cell 2;have V:=A.o.BB.blk.lt;go_wp2_with fail;replace A:=O (A.o.set 2 e (A.o.BB.z8 e));clear s r V;generalize At.setCell ⟨b,2,none⟩ e=Bx at *;refine(EH B _ AV T _ en (F+1+1+1+1+1) [59] A.o.rs rfl Aq.o).mono ?_;rintro E By ⟨rfl,C⟩;replace A:=O (A.o.to C);clear C;have Bi:Hid ({ fr:=(H:Int),mode:=d,unit:=e } = ({ fr:=(H:Int),mode:=d,unit:=e } : Ah)):=rfl;clear Al Am An Ao Aq;generalize Value.slice Q T.length c=v at *;go_wp2_with fail;go_loopg [55] 9000 (λt _ wr=>ALO B D AV T v en b Ar t wr)
 case atStart=>
  exact⟨F+1+1+1+1+1+1,_,_,_,_,_,_,A.o,U,Az _,Az _,Az _,Az _,Az _,by show _=_;rw[Ai.o]⟩
 case round=>
  clear A Bi Ai;obtain⟨G,x,s1,s2,s3,s4,As,hw,CI,CU,CV,CW,CX,CZ,BD⟩:=hrel;have A:=O hw;have A6:=hw.rs.bad;have o:=hw.rs.blk.lt;have CD:=hw.rs.le;clear hw;rcases gk with _|t
  .omega
  have I:=BD.o;rw[Ib,AU (show ¬(AT T G).bad=true by simp[AT])] at I;clear BD;cases L:(AT T G).Am [125] with
  | true=>
   rw[L,Ab rfl,Cw] at I;have f:=O I;have u:=O L;clear I L;go_wp2_with fail;refine(Hu B _ AV T v en G [125] A.o.rs rfl u.o).mono ?_;rintro E P ⟨rfl,a⟩;replace A:=O (A.o.to a);clear a A6 o;obtain⟨Z,Bw⟩:=Bd.o;have Bv:W.heap.size<D.heap.size:=by have:=Af.o;omega
   have y:=O (show ZX B W P AV T v en (G+1) W #[(),(),(),AL,AL,AL,AL,AL] x s1 s2 s3 s4 As from
    ⟨A.o.rs,A.o.BB.lists.lower U,(A.o.low.block _ Bv (by
     simp only[Aj,A',A_];omega)).trans Bw,
     ⟨A.o.low.os.trans Z.os,A.o.low.tape.trans Z.tape,A.o.low.output.trans Z.output,Ap Z.size A.o.low.size,λp Bs N=>(A.o.low.block p U N).trans (Z.block p Bs)⟩⟩)
   obtain⟨Aw,i,rfl,_⟩:=A.o.BB.c1.slice;obtain⟨Ax,A2,rfl,_⟩:=A.o.BB.c2.slice;obtain⟨Ay,A3,rfl,_⟩:=A.o.BB.c3.slice;obtain⟨A0,A4,rfl,_⟩:=A.o.BB.c4.slice;obtain⟨A1,A5,rfl,_⟩:=A.o.BB.c5.slice;obtain⟨Ba,r,Ca,Cb,Cc,Cd,Ce,Cf,CO⟩:=A.o.BB.blk.BF;obtain⟨Bb,s,Cg,Ch,Ci,Ck,Cl,Cm,CP⟩:=y.o.blk.BF;obtain⟨B5,B6,B7,B8,B9,B_,CA,CB⟩:=y.o.blk.fz;go_wp2_with fail;have n:=((((((((y.o.put AK 0 x.fr).put AK 1 x.mode).put AK 2 x.unit).put AK 3 (.slice Aw x.Ae.length i)).put AK 4 (.slice Ax x.Ad.length A2)).put AK 5 (.slice Ay x.lets.length A3)).put AK 6 (.slice A0 x.Ac.length A4)).put AK 7 (.slice A1 x.red.length A5));have hF:=f.o;rw[hF];exact BE (v:=.agg #[x.fr,x.mode,x.unit,.slice Aw x.Ae.length i,.slice Ax x.Ad.length A2,.slice Ay x.lets.length A3,.slice A0 x.Ac.length A4,.slice A1 x.red.length A5]) (Ja results90 _ _ W 151 _ (0,0) _ rfl n.blk underlying151 rfl zv) rfl ⟨G+1,_,_,_,_,_,rfl,n.lists,⟨n.rs,n.kept⟩,rfl⟩
  | false=>
   rw[L,AU AD] at I;have f:=O I;have u:=O L;clear I L;go_wp2_with fail;refine(GU B _ AV T v en G [125] A.o.rs rfl u.o).mono ?_;rintro E P ⟨rfl,l⟩;replace A:=O (A.o.below l);clear l A6 o;have BH:Hid ((Cy x (AT T G)).2.bad=false):=by
    have:=Bc.o;rw[f.o] at this;exact df this
   go_wp2_with fail;refine(AJh B _ AV T v en G D b x s1 s2 s3 s4 As A.o.rs A.o.BB A.o.low.size U U U U U BH.o).mono ?_;rintro E Av ⟨rfl,BS,BV,BW,BX,BY,BZ,AM,BQ,BJ,AO⟩;have M:=AJm x (AT T G);have Bq:=oc BH.o;rw[<-AO,On,On] at Bq;have CQ:=AM.le;have Bf:Hid (Hj B D Av AV T v en BS b (Cy x (AT T G)).1 BV BW BX BY BZ):=⟨AM,BQ,A.o.low.trans BJ⟩;have Be:=O AO;have A7:=M.Ae;have CE:=M.Ad;have CF:=M.lets;have CG:=M.Ac;have CH:=M.red;clear AM BQ BJ AO M;go_wp2_with fail;go_roundg t
   case measure=>omega
   case rel=>exact⟨BS,_,BV,BW,BX,BY,BZ,Bf.o,U,U,U,U,U,U,by show _=_;rw[Be.o];exact f.o⟩
end
section
variable{B':Nat}{l:List Ah}
section
variable {α:Type} {B:Nat} {w w':AA} {t m:Nat} {R:α->List AB->Prop} {L:List α} {v:AB}
def AS.at(F:AS B w t m R L v)(O:∀x u,R x u->u.length=m)(i:Nat)(x:α)(D:L[i]? = some x):
 ∃g c u,v=.slice (some ⟨g,0,none⟩) L.length c/\L.length<=c/\g<w.heap.size/\B<=g/\R x u/\∀j,j<m->w.cell? ⟨g,i*m+j,none⟩=u[j]?:=by
 obtain⟨V,G,H⟩:=F;have M:=(Cd.1 D).1;rcases H.2 with ⟨_,U⟩|⟨g,E,cur,rfl,J,C,K,_,_,P⟩
 .omega
 .obtain⟨u,Q,T⟩:=G.at O i x D;have N:∀j,j<m->i*m+j<L.length*m:=λj A=>by
   have I:(i+1)*m<=L.length*m:=Qv _ M;rw[Kj,Nf] at I;omega
  refine⟨g,E,u,rfl,K,AG.lt (t:=t) (cs:=cur) C,J,Q,λj A=>?_⟩;rw[AG.cell (t:=t) (cs:=cur) C,<-T j A,<-P,Lc,Ab (N j A)];simp
def AS.below{R':α->List AB->Prop}(h:AS B w t m R L v)(hb:Below w w w')(A:∀x u,R x u->R' x u):AS B w' t m R' L v:=
 h.kept (S:=[]) CX CE A
end
abbrev Ox(t:Nat):Prop:=t=206\/t=209\/t=215\/t=218\/t=221\/t=213
def Ox.BB{t:Nat}(A:Ox t):JX t:=.inr A
section
variable {B:Nat} {w w':AA} {x:Ah} {s1 s2 s3 s4 As:AB} {S:List Nat}
def B5.kept(h:B5 B w x s1 s2 s3 s4 As)(C:AP S w w')(D:∀g t cs,AG w g t cs->Ox t->g∉S):B5 B w' x s1 s2 s3 s4 As:=
 have E:∀g cs,AG w g 213 cs->g∉S:=λg cs A=>D g _ cs A SE;⟨h.c1.kept C (λg cs A=>D g _ cs A SE) BW,h.c2.kept C (λg cs A=>D g _ cs A SE) BW,
  h.c3.kept C (λg cs A=>D g _ cs A SE) (λ_ _ q=>q.kept C E),h.c4.kept C (λg cs A=>D g _ cs A SE) (λ_ _ q=>q.kept C E),h.c5.kept C (λg cs A=>D g _ cs A SE) (λ_ _ q=>q.kept C E)⟩
def B5.below(h:B5 B w x s1 s2 s3 s4 As)(hb:Below w w w'):B5 B w' x s1 s2 s3 s4 As:=
 h.kept (S:=[]) CX My
end
def H6(B:Nat)(w:AA)(x:Ah)(u:List AB):Prop:=∃s1 s2 s3 s4 As,u=[.int .i64 x.fr,.int .i64 x.mode,.int .i64 x.unit,s1,s2,s3,s4,As]/\B5 B w x s1 s2 s3 s4 As
def H6.len{B:Nat}{w:AA}{x:Ah}{u:List AB}(A:H6 B w x u):u.length=8:=by obtain⟨s1,s2,s3,s4,As,rfl,_⟩:=A;rfl
def H6.kept{B:Nat}{w w':AA}{x:Ah}{u:List AB}{S:List Nat}(A:H6 B w x u)(D:AP S w w')(C:∀g t cs,AG w g t cs->Ox t->g∉S):H6 B w' x u:=by
 obtain⟨s1,s2,s3,s4,As,rfl,A⟩:=A;exact⟨s1,s2,s3,s4,As,rfl,A.kept D C⟩
def H6.lower{B:Nat}{w:AA}{x:Ah}{u:List AB}(A:H6 B w x u)(C:B'<=B):H6 B' w x u:=by
 obtain⟨s1,s2,s3,s4,As,rfl,A⟩:=A;exact⟨s1,s2,s3,s4,As,rfl,A.lower C⟩
def Dh(B:Nat)(w:AA)(l:List Ah)(v:AB):Prop:=AS B w 151 8 (H6 B w) l v
def Dh.kept{B:Nat}{w w':AA}{v:AB}{S:List Nat}(h:Dh B w l v)(D:AP S w w')(C:∀g t cs,AG w g t cs->JX t->g∉S):Dh B w' l v:=
 AS.kept h D (λg cs A=>C g _ cs A OM) (λ_ _ F=>F.kept D (λg t cs A E=>C g t cs A E.BB))
def Dh.below{B:Nat}{w w':AA}{v:AB}(h:Dh B w l v)(hb:Below w w w'):Dh B w' l v:=
 h.kept (S:=[]) CX My
def Dh.lower{B:Nat}{w:AA}{v:AB}(C:Dh B w l v)(A:B'<=B):Dh B' w l v:=AS.lower C A (λ_ _ D=>D.lower A)
def Dh.to{B:Nat}{w w':AA}{v s:AB}{C:Nat}{T:A9}{D:Int}{k J:Nat}(h:Dh B w l v)(G:BM B' w C T s D k)(H:To B' w w' C T s D J):Dh B w' l v:=
 h.kept H.kept (λM t K F I E=>by
  simp only[Aj,A',A_] at E;subst E;have:=F.same G.blk;subst this;rcases I with A|A|A|A|A|A|A<;>exact absurd A AD)
def J3(B:Nat)(w:AA)(x:CL)(u:List AB):Prop:=∃v,u=[AR x.name,.int .i64 x.cur,v]/\Dh B w x.A0 v
def J3.len{B:Nat}{w:AA}{x:CL}{u:List AB}(h:J3 B w x u):u.length=3:=gw
def J3.kept{B:Nat}{w w':AA}{x:CL}{u:List AB}{S:List Nat}(A:J3 B w x u)(D:AP S w w')(C:∀g t cs,AG w g t cs->JX t->g∉S):J3 B w' x u:=by
 obtain⟨v,rfl,A⟩:=A;exact⟨v,rfl,A.kept D C⟩
def J3.below{B:Nat}{w w':AA}{x:CL}{u:List AB}(h:J3 B w x u)(hb:Below w w w'):J3 B w' x u:=
 h.kept (S:=[]) CX My
def J3.lower{B:Nat}{w:AA}{x:CL}{u:List AB}(A:J3 B w x u)(C:B'<=B):J3 B' w x u:=by
 obtain⟨v,rfl,A⟩:=A;exact⟨v,rfl,A.lower C⟩
end
section
open Go.RowKit Go.ChangeMaps Go.MapKept Go.WideShapes
open Go.Maps (Keyed IsMap Tidy)
variable{t:TypeId}{g:Nat}{a c:AB}
def AG.c2{w:AA}{b:AB}(A:AG w g t #[a,b]):w.cell? ⟨g,0,none⟩=some a/\w.cell? ⟨g,1,none⟩=some b/\g<w.heap.size:=⟨A.cell 0,A.cell 1,A.lt⟩
def AG.c3{w:AA}{b:AB}(A:AG w g t #[a,b,c]):w.cell? ⟨g,0,none⟩=some a/\w.cell? ⟨g,1,none⟩=some b/\w.cell? ⟨g,2,none⟩=some c/\g<w.heap.size:=⟨A.cell 0,A.cell 1,A.cell 2,A.lt⟩
def AG.c5{w:AA}{b d e:AB}(A:AG w g t #[a,b,c,d,e]):w.cell? ⟨g,0,none⟩=some a/\w.cell? ⟨g,1,none⟩=some b/\w.cell? ⟨g,2,none⟩=some c/\w.cell? ⟨g,3,none⟩=some d/\w.cell? ⟨g,4,none⟩=some e/\g<w.heap.size:=
 ⟨A.cell 0,A.cell 1,A.cell 2,A.cell 3,A.cell 4,A.lt⟩
section
variable {P:Program} {k:TypeId} {w:AA} {b n:Nat} {F:AB->Option AB}
open Classical in
def DQ.entry{e:TypeId}(h:DQ w P k b n F)(K:WideMaps.KeyLaw P k)(C:P.underlying t=some (.map k e))(AX:n+1<maxLen){z:AB}(Q:∀u:AA,(zeroValue e).run P u=.ok z u){key:AB}{AP:Lit}(A:keyOf P k key=some AP):
 ∃st M,(Instr.mapEntry t (.map (some b)) key).run P w=.ok (.tuple #[(F key).getD z,goInt st]) M/\w.grownBy M (some b)/\(Instr.lookup t (.map (some b)) key false).run P M=.ok ((F key).getD z) M/\
  ∀(val:AB) (F':AB->Option AB),F' key=some val->(∀x,x≠key->F' x=F x)->∃j,(Instr.entryStore t (.map (some b)) (goInt st) val).run P M=.ok () j/\DQ j P k b (n+1) F'/\w.grownBy j (some b):=by
 have AC:=λ(val:AB) (F':AB->Option AB) AJ s=>h.store (Keyed.of_law K) C U A (val:=val) (F':=F') AJ s;have W:=h.look (Keyed.of_law K) C (Q w) A;obtain⟨AW,⟨D,S,B,l,AY,rfl⟩,s⟩:=id h;obtain⟨AE,st,L,J,R,_,AS⟩:=Go.WideElems.entry_then_store K C Q B l A;have AN:AE=(F key).getD z/\(Instr.mapUpdate t (.map (some b)) key AE).run P w=.ok () (setBlock w b (.map L J)):=by
  rcases K.find w A D.toList l.keys with ⟨H,T⟩|⟨AD,G,H,T,V⟩
  .have i:(Instr.mapEntry t (.map (some b)) key).run P w=.ok (.tuple #[z,goInt S]) (setBlock w b (.map (D.push ⟨key,z,S⟩) (S+1))):=by
    simp[Instr.mapEntry,Qs C,Qr B,K.check w false A,H,Q,WZ _ B,Result.andThen,setBlock]
   rw[i] at R;injection R with e1 e2;injection e1 with e1;simp only[Array.mk.injEq,Mh,Jx] at e1;rw[<-e1.1,<-e2];refine⟨?_,by simp[Instr.mapUpdate,Qs C,Qr B,K.check w false A,H,WZ _ B,Result.andThen,setBlock]⟩;have Z:(Instr.lookup t (.map (some b)) key false).run P w=.ok z w:=by
    simp[Instr.lookup,Qs C,Qr B,K.check w D.isEmpty A,H,Q,Result.andThen]
   rw[Z] at W;injection W
  .have v:D[AD]? = some G:=by simpa using T
   have y:∀E:MapEntry->MapEntry,E G=G->D.modify AD E=D:=by
    intro E O;apply Array.ext';rw[Array.toList_modify,modify_eq_set _ _ _ _ T,O];exact Go.WideElems.set_self _ _ _ T
   have i:(Instr.mapEntry t (.map (some b)) key).run P w=.ok (.tuple #[G.val,goInt G.born]) (setBlock w b (.map D S)):=by
    have:=y (λe=>{ e with key:=key }) (by rw[<-V]);simp[Instr.mapEntry,Qs C,Qr B,K.check w false A,H,v,V,K.stays w A,this,WZ _ B,Result.andThen,setBlock]
   rw[i] at R;injection R with e1 e2;injection e1 with e1;simp only[Array.mk.injEq,Mh,Jx] at e1;rw[<-e1.1,<-e2];refine⟨?_,?_⟩
   .have Z:(Instr.lookup t (.map (some b)) key false).run P w=.ok G.val w:=by
     simp[Instr.lookup,Qs C,Qr B,K.check w D.isEmpty A,H,Result.andThen]
    rw[Z] at W;injection W
   .have:=y (λAF=>{ AF with key:=key,val:=G.val }) (by rw[<-V]);simp[Instr.mapUpdate,Qs C,Qr B,K.check w false A,H,v,V,K.stays w A,this,WZ _ B,Result.andThen,setBlock]
 obtain⟨rfl,AM⟩:=AN;have d:=h.lt;have Y:∀(u:AA) (o:Obj),b<u.heap.size->u.grownBy (setBlock u b o) (some b)/\(setBlock u b o).heap[b]? = some o:=by
  intro u o AL;refine⟨⟨rfl,rfl,rfl,by simp[setBlock],λE O X=>?_⟩,by simp[setBlock,AL]⟩;have:b≠E:=λe=>X (by rw[e]);simp[setBlock,this]
 obtain⟨N,AG⟩:=Y w (.map L J) d;refine⟨st,setBlock w b (.map L J),R,N,?_,λval F' AQ AR=>?_⟩
 .obtain⟨AV,I,f,_⟩:=AC ((F key).getD z) (λx=>if x=key then some ((F key).getD z) else F x) AH (λx AO=>by simp[AO]);rw[AM] at I;simp only[Result.ok.injEq,true_and] at I;subst I;have:=f.look (Keyed.of_law K) C (Q _) A;exact E_
 .obtain⟨AV,I,f,_⟩:=AC val F' AQ AR;obtain⟨q,m,AT,AU⟩:=AS (setBlock w b (.map L J)) val AG;rw[AU] at I;simp only[Result.ok.injEq,true_and] at I;subst I;have AK:b<(setBlock w b (.map L J)).heap.size:=Co d N.size;obtain⟨r,AI⟩:=Y (setBlock w b (.map L J)) (.map q m) AK;refine⟨_,AT,f.keep (AI.trans (Y w (.map q m) d).2.symm),⟨rfl,rfl,rfl,Ap N.size r.size,λE O X=>(r.block E (Co O N.size) X).trans (N.block E O X)⟩⟩
end
end
def Gl:List AY->Nat
 | []=>0
 | k::r=>max k.depth (Gl r)
def GX:List AY->Nat
 | []=>0
 | k::r=>k.size+GX r
def AIX(l:List AY)(k:AY):Gl (l++[k])=max (Gl l) k.depth:=by
 induction l with
 | nil=>simp[Gl]
 | cons B l A=>simp only[DC,Gl,A];omega
def zZ(l:List AY)(k:AY):GX (l++[k])=GX l+k.size:=by
 induction l with
 | nil=>simp[GX]
 | cons B l A=>simp only[DC,GX,A];omega
def AY.oA(e:AY):e.depth=Gl e.kids+1:=by
 cases e<;>simp only[AY.depth,AY.kids,Gl]<;>omega
def AY.jm(e:AY):e.size=GX e.kids+1:=by
 cases e<;>simp only[AY.size,AY.kids,GX]<;>omega
def Se{α:Type}(l:List α)(i:Nat)(k:α)(A:l[i]? = some k):l.take (i+1)=l.take i++[k]:=by
 rw[Mk,A];rfl
def n9(l:List AY)(k:AY)(A:k∈l):k.depth<=Gl l:=by
 induction l with
 | nil=>cases A
 | cons C l B=>
  rcases Aj.1 A with rfl|A
  .simp only[Gl];omega
  .have:=B A;simp only[Gl];omega
def jh(l:List AY)(k:AY)(A:k∈l):k.size<=GX l:=by
 induction l with
 | nil=>cases A
 | cons C l B=>
  rcases Aj.1 A with rfl|A
  .simp only[GX];omega
  .have:=B A;simp only[GX];omega
def n8(l:List AY)(i:Nat):Gl (l.take i)<=Gl l:=by
 induction l generalizing i with
 | nil=>simp
 | cons B l A=>
  cases i with
  | zero=>simp[Gl]
  | succ i=>have:=A i;simp only[Qq,Gl];omega
def jg(l:List AY)(i:Nat):GX (l.take i)<=GX l:=by
 induction l generalizing i with
 | nil=>simp
 | cons B l A=>
  cases i with
  | zero=>simp[GX]
  | succ i=>have:=A i;simp only[Qq,GX];omega
def AY.Qo(e:AY):e.kids.length<=3:=by cases e<;>simp[AY.kids]
def Rt(n:Int)(w:AA)(e:Ending)(A:AA):Prop:=e=.returned n/\Below w w A
def Ca(b:Bool)(w:AA)(e:Ending)(A:AA):Prop:=e=.returned (.bool b)/\Below w w A
structure Bd(P:Nat->Prop)(W X:AA)(e:AY)(b:Nat)(vs:List AB):Prop where
 AJ:Below W W X
 blk:AG X b 213 vs.toArray
 tree:Ai P X e vs
def Bd.new{P:Nat->Prop}{W:AA}{e:AY}{A:List AB}(h:Ai P W e A):Bd P W (W.alloc (.cells A.toArray 213)) e W A:=
 have B:=(AN W W).alloc AK (.cells A.toArray 213);⟨B,AG.new W _ _,h.stay B⟩
def Bd.below{P:Nat->Prop}{W B D:AA}{e:AY}{b:Nat}{E:List AB}(A:Bd P W B e b E)(C:Below B B D):Bd P W D e b E:=
 ⟨AW A.AJ C,A.blk.below C A.blk.lt,A.tree.stay C⟩
def Ai.MW{P:Nat->Prop}{w:AA}{e:AY}{M:List AB}(h:Ai P w e M){a:BH}{n c:Nat}{u0 u1 u2 u3 u4:AB}(V:M=[u0,u1,u2,u3,u4,.slice a n c])(i:Nat)(k:AY)(K:e.kids[i]? = some k):
 ∃(g o:Nat) (C D E F:Int) (G:AE) (I:BH) (J H:Nat),a=some ⟨g,o,none⟩/\n=e.kids.length/\n<=c/\g<w.heap.size/\Ai P w k [.int .i64 C,.int .i64 D,.int .i64 E,.int .i64 F,AR G,.slice I J H]
  /\w.cell? ⟨g,o+i*6,none⟩=some (C:AB)/\w.cell? ⟨g,o+i*6+1,none⟩=some (D:AB)/\w.cell? ⟨g,o+i*6+2,none⟩=some (E:AB)/\w.cell? ⟨g,o+i*6+3,none⟩=some (F:AB)
  /\w.cell? ⟨g,o+i*6+4,none⟩=some (AR G)/\w.cell? ⟨g,o+i*6+5,none⟩=some (.slice I J H):=by
 obtain⟨N,O,g,o,X,B,Q,R,S,T⟩:=h.inv;obtain⟨Y,Z,b,d,U⟩:=e.RK (.slice N e.kids.length O);rw[V,U] at B;unfold H2 at B;simp only[Mh,Km,Jx] at B;obtain⟨_,_,_,_,_,rfl,rfl,rfl⟩:=B;obtain⟨rfl,_⟩:=R (cE K);have L:=T i k K;have A:=S i k K;obtain⟨C,D,E,F,G,I,J,H,W⟩:=L.BS;rw[W] at L A;exact⟨g,o,C,D,E,F,G,I,J,H,rfl,rfl,Q,A.lt,L,A.cell 0 AH,A.cell 1 AH,A.cell 2 AH,A.cell 3 AH,A.cell 4 AH,A.cell 5 AH⟩
def LE(op:Int)(n:Nat):Prop:=(1<=op/\op<=3/\n=0)\/(4<=op/\op<=6/\n=1)\/(7<=op/\op<=20/\n=2)\/(op=21/\n=3)
def Xi(op:Int)(n:Nat)(h:LE op n)(w:AA):AI 346 #[op] w λG H=>G=.returned n/\w=H:=by
 rcases h with ⟨A,D,rfl⟩|⟨A,D,rfl⟩|⟨A,D,rfl⟩|⟨A,rfl⟩
 .have B:decide (1<=op)=true:=AM;have C:decide (op<=3)=true:=AM;exact FA
 .have C:decide (op<=3)=false:=AM;have E:decide (4<=op)=true:=AM;have F:decide (op<=6)=true:=AM;have B:decide (1<=op)=true:=AM;exact FA
 .have B:decide (1<=op)=true:=AM;have C:decide (op<=3)=false:=AM;have E:decide (4<=op)=true:=AM;have F:decide (op<=6)=false:=AM;have I:decide (7<=op)=true:=AM;have J:decide (op<=20)=true:=AM;exact FA
 .subst A;exact FA
def AY.Xm(e:AY)(A:e.DG=true):LE e.op e.kids.length:=by
 unfold LE;cases e with
 | zero=>cases A
 | lit H E=>exact .inl ⟨(by show(1:Int)<=1;decide),(by show(1:Int)<=3;decide),rfl⟩
 | name G=>exact .inl ⟨(by show(1:Int)<=2;decide),(by show(2:Int)<=3;decide),rfl⟩
 | EY F=>exact .inl ⟨(by show(1:Int)<=3;decide),(by show(3:Int)<=3;decide),rfl⟩
 | un D B=>
  simp only[AY.DG,At,CJ] at A;exact .inr (.inl ⟨A.1.1,A.1.2,rfl⟩)
 | bin D B C=>
  simp only[AY.DG,At,CJ] at A;exact .inr (.inr (.inl ⟨A.1.1.1,A.1.1.2,rfl⟩))
 | ite c B C=>exact .inr (.inr (.inr ⟨rfl,rfl⟩))
def ABv(P:Nat->Prop):∀(e:AY) (w:AA) (D:List AB),Ai P w e D->e.depth<=1000000000->AI 298 #[.agg D.toArray] w (Rt (e.depth:Int) w):=by
 refine AY.MV ?_;intro e I w D h N;have J:=O I;rw[e.oA] at N ⊢;obtain⟨S,T,V,W,X,Z,Db,Y,rfl⟩:=h.BS;have AC:=O (Bd.new h);have f:Db<=3:=by
  exact YT
 have Tu:Hid (Db=e.kids.length):=by
  exact YU
 have K:=AC.o.blk.g5;have M:=AC.o.blk.lt;go_in;go_wp2_with fail;go_loopw [3,4] (λx E wr=>∃i:Nat,x=.int .i64 ((0:Int)+(Gl (e.kids.take i):Nat):Int)/\E=.int .i64 (i:Int)/\i<=Db/\Bd P w wr e w [.int .i64 S,.int .i64 T,.int .i64 V,.int .i64 W,AR X,.slice Z Db Y]) (λ_ E _=>Db-(intOf E).toNat)
 case atStart=>exact⟨0,rfl,rfl,Az _,AC.o⟩
 case round=>
  obtain⟨i,rfl,rfl,c,C⟩:=hrel;have AC:=O C;have K:=C.blk.g5;have M:=C.blk.lt;by_cases hlt:i<Db
  .obtain⟨A,B⟩:=BQ e.kids i Zh;obtain⟨g,o,m,n,q,r,s,u,v,t,rfl,-,k,b,R,z,AD,AE,AF,AG,AJ⟩:=AC.o.tree.MW rfl i A B;have dl:decide ((i:Int)<(Db:Int))=true:=AM;have H:=O R;have a:=O B;have F:A∈e.kids:=Bu B;have d:=n9 e.kids A F;have j:=n8 e.kids i;have G:=O F;have OF:=O (Se e.kids i A B);have Q:A.depth<=1000000000:=U;generalize L:Gl (e.kids.take i)=y at *;have U8:=O L;go_wp2_with fail;go_call J.o A G.o _ _ H.o Q as en w1 ⟨rfl,hb1⟩;replace AC:=O Bg;exact rD
  .exact YP
def AAm(P:Nat->Prop):∀(e:AY) (w:AA) (D:List AB),Ai P w e D->e.size<=1000000000->AI 299 #[.agg D.toArray] w (Rt (e.size:Int) w):=by
 refine AY.MV ?_;intro e I w D h N;have J:=O I;rw[e.jm] at N ⊢;obtain⟨S,T,V,W,X,Z,Db,Y,rfl⟩:=h.BS;have AC:=O (Bd.new h);have f:Db<=3:=by
  exact YT
 have Tu:Hid (Db=e.kids.length):=by
  exact YU
 have K:=AC.o.blk.g5;have M:=AC.o.blk.lt;go_in;go_wp2_with fail;go_loopw [3,4] (λx E wr=>∃i:Nat,x=.int .i64 ((1:Int)+(GX (e.kids.take i):Nat):Int)/\E=.int .i64 (i:Int)/\i<=Db/\Bd P w wr e w [.int .i64 S,.int .i64 T,.int .i64 V,.int .i64 W,AR X,.slice Z Db Y]) (λ_ E _=>Db-(intOf E).toNat)
 case atStart=>exact⟨0,rfl,rfl,Az _,AC.o⟩
 case round=>
  obtain⟨i,rfl,rfl,c,C⟩:=hrel;have AC:=O C;have K:=C.blk.g5;have M:=C.blk.lt;by_cases hlt:i<Db
  .obtain⟨A,B⟩:=BQ e.kids i Zh;obtain⟨g,o,m,n,q,r,s,u,v,t,rfl,-,k,b,R,z,AD,AE,AF,AG,AJ⟩:=AC.o.tree.MW rfl i A B;have dl:decide ((i:Int)<(Db:Int))=true:=AM;have H:=O R;have a:=O B;have F:A∈e.kids:=Bu B;have d:=jh e.kids A F;have j:=jg e.kids i;have G:=O F;have OF:=O (Se e.kids i A B);have Q:A.size<=1000000000:=U;generalize L:GX (e.kids.take i)=y at *;have U8:=O L;go_wp2_with fail;go_call J.o A G.o _ _ H.o Q as en w1 ⟨rfl,hb1⟩;replace AC:=O Bg;exact rC
  .exact YP
def AAG(P:Nat->Prop):∀(e:AY) (w:AA) (D:List AB),Ai P w e D->e.depth<=1000000000->AI 307 #[.agg D.toArray] w (Rt (e.depth:Int) w):=by
 refine AY.MV ?_;intro e J w D h Q;have K:=O J;rw[e.oA] at Q ⊢;obtain⟨c,d,f,j,k,n,Db,m,rfl⟩:=h.BS;have AC:=O (Bd.new h);have u:Db<=3:=by
  exact YT
 have Tu:Hid (Db=e.kids.length):=by
  exact YU
 have L:=AC.o.blk.g5;have N:=AC.o.blk.lt;go_in;go_wp2_with fail;go_loopw [3,9] (λx E wr=>∃i:Nat,x=.int .i64 ((0:Int)+(Gl (e.kids.take i):Nat):Int)/\E=.int .i64 (i:Int)/\i<=Db/\Bd P w wr e w [.int .i64 c,.int .i64 d,.int .i64 f,.int .i64 j,AR k,.slice n Db m]) (λ_ E _=>Db-(intOf E).toNat)
 case atStart=>exact⟨0,rfl,rfl,Az _,AC.o⟩
 case round=>
  obtain⟨i,rfl,rfl,s,C⟩:=hrel;have AC:=O C;have L:=C.blk.g5;have N:=C.blk.lt;by_cases hlt:i<Db
  .obtain⟨A,B⟩:=BQ e.kids i Zh;obtain⟨g,o,T,V,W,X,Y,a,b,Z,rfl,-,y,r,S,AD,AE,AF,AG,AJ,AL⟩:=AC.o.tree.MW rfl i A B;have dl:decide ((i:Int)<(Db:Int))=true:=AM;have I:=O S;have q:=O B;have G:A∈e.kids:=Bu B;have t:=n9 e.kids A G;have v:=n8 e.kids i;have H:=O G;have OF:=O (Se e.kids i A B);have R:A.depth<=1000000000:=U;have F:Below wr wr (wr.alloc (.cells #[T,V,W,X,AR Y,.slice a b Z] 213)):=(AN _ _).alloc AK _;generalize M:Gl (e.kids.take i)=z at *;have U8:=O M;go_wp2_with fail;go_call K.o A H.o _ _ (I.o.stay F) R as en w1 ⟨rfl,hb1⟩;replace AC:=O ((AC.o.below F).below hb1);exact rD
  .exact YP
def zb(P:Nat->Prop):∀(e:AY) (w:AA) (D:List AB),Ai P w e D->e.size<=1000000000->AI 308 #[.agg D.toArray] w (Rt (e.size:Int) w):=by
 refine AY.MV ?_;intro e J w D h Q;have K:=O J;rw[e.jm] at Q ⊢;obtain⟨c,d,f,j,k,n,Db,m,rfl⟩:=h.BS;have AC:=O (Bd.new h);have u:Db<=3:=by
  exact YT
 have Tu:Hid (Db=e.kids.length):=by
  exact YU
 have L:=AC.o.blk.g5;have N:=AC.o.blk.lt;go_in;go_wp2_with fail;go_loopw [3,9] (λx E wr=>∃i:Nat,x=.int .i64 ((1:Int)+(GX (e.kids.take i):Nat):Int)/\E=.int .i64 (i:Int)/\i<=Db/\Bd P w wr e w [.int .i64 c,.int .i64 d,.int .i64 f,.int .i64 j,AR k,.slice n Db m]) (λ_ E _=>Db-(intOf E).toNat)
 case atStart=>exact⟨0,rfl,rfl,Az _,AC.o⟩
 case round=>
  obtain⟨i,rfl,rfl,s,C⟩:=hrel;have AC:=O C;have L:=C.blk.g5;have N:=C.blk.lt;by_cases hlt:i<Db
  .obtain⟨A,B⟩:=BQ e.kids i Zh;obtain⟨g,o,T,V,W,X,Y,a,b,Z,rfl,-,y,r,S,AD,AE,AF,AG,AJ,AL⟩:=AC.o.tree.MW rfl i A B;have dl:decide ((i:Int)<(Db:Int))=true:=AM;have I:=O S;have q:=O B;have G:A∈e.kids:=Bu B;have t:=jh e.kids A G;have v:=jg e.kids i;have H:=O G;have OF:=O (Se e.kids i A B);have R:A.size<=1000000000:=U;have F:Below wr wr (wr.alloc (.cells #[T,V,W,X,AR Y,.slice a b Z] 213)):=(AN _ _).alloc AK _;generalize M:GX (e.kids.take i)=z at *;have U8:=O M;go_wp2_with fail;go_call K.o A H.o _ _ (I.o.stay F) R as en w1 ⟨rfl,hb1⟩;replace AC:=O ((AC.o.below F).below hb1);exact rC
  .exact YP
