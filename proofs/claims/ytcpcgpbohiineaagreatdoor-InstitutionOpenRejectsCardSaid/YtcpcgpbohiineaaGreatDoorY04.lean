/- Lemmas for Y28. -/
import Derived.Test.YtcpcgpbohiineaaGreatDoorY01
import Derived.Test.YtcpcgpbohiineaaGreatDoorY05
namespace Go.Proofs.YtcpcgpbohiineaaGreatDoor
open Go.RowKit Go.Proofs.Tryz
set_option linter.all false
set_option maxRecDepth 100000
set_option maxHeartbeats 4000000
def Dt(l:Ay)(v:AB)(i:Nat)(x:Int)(w:AA)(B:Fo w v l)(C:l.length<=1000000000000000000)(A:i<=1000000)(D:x=(i:Int)):
 AI 41 #[v,x] w (BX (.int .i64 (Fz l i)) w):=by
 subst D;exact WC l v i w B C A
def Dx(l:Ay)(i m:Nat)(y:Int)(w:AA)(B:1<=m)(C:m<=1000000)(A:y=(m:Int)):
 AI 5 #[.int .i64 (Fz l i),y] w (BX (.int .i64 ((Al l i m:Nat):Int)) w):=by
 subst A;have h:=dI (Fz l i) (m:Int) U;have e:((Al l i m:Nat):Int)=Fz l i%(m:Int):=by unfold Al;omega
 rw[e];exact WN _ _ w U U
def Ko(n:Nat)(x:Int)(w:AA)(A:n<1000000000000000000)(B:x=(n:Int)):
 AI 93 #[x] w (BX (AR (BG n)) w):=by
 subst B;exact XQ n w A
def TC(n:Nat)(x:Int)(w:AA)(A:n<1000000000000000000)(B:x=(n:Int)):
 AI 160 #[x] w (BX (AR (Du n)) w):=by
 subst B;exact AED n w A
def TD(n:Nat):(Du n).length<=61:=by
 have:=Hc (n / 100);have:=Hc (n / 10%10);have:=Hc (n%10);simp only[Du,Cp,CB,EE];omega
def Og{b:ByteArray}{l:AE}(A:b.data.toList=l):Value.string b=.string ⟨l.toArray⟩:=by
 subst A;simp
def ACU{l:Ay}{a:Nat}(fr:AE)(B:0<Al l (a+3) 3):IN fr (BN l a)=S' fr (BN l a)++((Tb++BG (100+Al l (a+3) 1000))++[59,32]):=by
 have A:(BN l a).child=some (100+Al l (a+3) 1000):=Ab B;unfold IN;rw[A];rfl
def ACV{l:Ay}{a:Nat}(fr:AE)(B:¬0<Al l (a+3) 3):IN fr (BN l a)=S' fr (BN l a):=by
 have A:(BN l a).child=none:=AU B;unfold IN;rw[A]
def ACY{l:Ay}{a:Nat}(fr:AE)(B:0<Al l (a+17) 3):IOo fr (BN l a)=TA fr (BN l a)++((TZ++Du (10*Al l (a+17) 11))++[59,32]):=by
 have A:(BN l a).ro=some (10*Al l (a+17) 11):=Ab B;unfold IOo;rw[A];rfl
def ACZ{l:Ay}{a:Nat}(fr:AE)(B:¬0<Al l (a+17) 3):IOo fr (BN l a)=TA fr (BN l a):=by
 have A:(BN l a).ro=none:=AU B;unfold IOo;rw[A]
def ACS{l:Ay}{a:Nat}(fr:AE)(B:Al l (a+4) 4=0):KR fr (BN l a)=IN fr (BN l a)++WV:=by
 have A:(BN l a).MG=true:=by simp[BN,B]
 unfold KR;rw[A];rfl
def ACT{l:Ay}{a:Nat}(fr:AE)(h:¬(Al l (a+4) 4=0)):KR fr (BN l a)=IN fr (BN l a):=by
 have A:(BN l a).MG=false:=gZ;unfold KR;rw[A];rfl
def ACQ{l:Ay}{a:Nat}(fr:AE)(B:0<Al l (a+13) 5):KQ fr (BN l a)=S_ fr (BN l a)++WU:=by
 have A:(BN l a).NF=true:=by simp[BN,B]
 unfold KQ;rw[A];rfl
def ACR{l:Ay}{a:Nat}(fr:AE)(h:¬(0<Al l (a+13) 5)):KQ fr (BN l a)=S_ fr (BN l a):=by
 have A:(BN l a).NF=false:=gZ;unfold KQ;rw[A];rfl
def ACW{l:Ay}{a:Nat}(fr:AE)(B:Al l (a+18) 3=0):KS fr (BN l a)=IOo fr (BN l a)++WW:=by
 have A:(BN l a).rd=true:=by simp[BN,B]
 unfold KS;rw[A];rfl
def ACX{l:Ay}{a:Nat}(fr:AE)(h:¬(Al l (a+18) 3=0)):KS fr (BN l a)=IOo fr (BN l a):=by
 have A:(BN l a).rd=false:=gZ;unfold KS;rw[A];rfl
def yO(l:Ay)(v:AB)(fr:AE)(a:Nat)(w:AA)(B:Fo w v l)(C:l.length<=1000000000000000000)(ha:a<=1000)(A2:fr.length<=100):
 AI 94 #[AR fr,v,a] w (BX (AR (MK fr (BN l a))) w):=by
 unfold AR;go_in;go_wp2_with fail;refine(Dt l v a _ w B C (by omega) (by omega)).mono ?_;rintro e w' ⟨rfl,rfl⟩;go_wp2_with fail;refine(Dx l a 90 _ _ (by omega) (by omega) (by omega)).mono ?_;rintro e w' ⟨rfl,rfl⟩;have Aj:=FH l a 90 (by omega);go_wp2_with fail;refine(Ko (300+Al l a 90) _ _ (by omega) (by omega)).mono ?_;rintro e w' ⟨rfl,rfl⟩;have BK:=Hc (300+Al l a 90);generalize Af:BG (300+Al l a 90)=AF at *;have b:=O Af;unfold AR;go_wp2_with fail;refine(Dt l v (a+1) _ w B C (by omega) (by omega)).mono ?_;rintro e w' ⟨rfl,rfl⟩;go_wp2_with fail;refine(Dx l (a+1) 4 _ _ (by omega) (by omega) (by omega)).mono ?_;rintro e w' ⟨rfl,rfl⟩;have AK:=FH l (a+1) 4 (by omega);go_upto_block 0 with fail;go_cut [8] (λG F=>∃A:AE,G=.string ⟨A.toArray⟩/\A.length<=200/\Hid (A=ML fr (BN l a))/\w=F);case first=>as_aux_lemma=>
  have E:Hid (ML fr (BN l a)=TB fr++(modes (Al l (a+1) 4)).1):=rfl;generalize Al l (a+1) 4=k at *;rcases k with _|_|_|_|k
  .go_wp2_with fail;go_meet;have e:ML fr (BN l a)=([102,114,111,109,32,64]++fr)++[32,123,32,114,111,117,110,100,32]++[100,111,119,110,32,49,59,32]:=by
    exact Xo
   exact YK
  .go_wp2_with fail;go_meet;have e:ML fr (BN l a)=([102,114,111,109,32,64]++fr)++[32,123,32,114,111,117,110,100,32]++[104,97,108,102,32,53,59,32]:=by
    exact Xo
   exact YK
  .go_wp2_with fail;go_meet;have e:ML fr (BN l a)=([102,114,111,109,32,64]++fr)++[32,123,32,114,111,117,110,100,32]++[117,112,32,49,59,32]:=by
    exact Xo
   exact YK
  .go_wp2_with fail;go_meet;have e:ML fr (BN l a)=([102,114,111,109,32,64]++fr)++[32,123,32,114,111,117,110,100,32]++[101,118,101,110,32,49,48,59,32]:=by
    exact Xo
   exact YK
  .exact absurd AK (by omega)
 obtain⟨c,rfl,A3,I,rfl⟩:=hcut;go_wp2_with fail;refine(Dt l v (a+2) _ w B C (by omega) (by omega)).mono ?_;rintro e w' ⟨rfl,rfl⟩;go_wp2_with fail;refine(Dx l (a+2) 900 _ _ (by omega) (by omega) (by omega)).mono ?_;rintro e w' ⟨rfl,rfl⟩;have Au:=FH l (a+2) 900 (by omega);go_wp2_with fail;refine(Ko (1+Al l (a+2) 900) _ _ (by omega) (by omega)).mono ?_;rintro e w' ⟨rfl,rfl⟩;have BC:=Hc (1+Al l (a+2) 900);generalize AY:BG (1+Al l (a+2) 900)=t at *;have U:=O AY;unfold AR;go_wp2_with fail;refine(Dt l v (a+3) _ w B C (by omega) (by omega)).mono ?_;rintro e w' ⟨rfl,rfl⟩;go_wp2_with fail;refine(Dx l (a+3) 3 _ _ (by omega) (by omega) (by omega)).mono ?_;rintro e w' ⟨rfl,rfl⟩;have AN:=FH l (a+3) 3 (by omega);go_upto_if 53 with fail;go_cut [8] (λG F=>∃A:AE,G=.string ⟨A.toArray⟩/\A.length<=400/\Hid (A=IN fr (BN l a))/\w=F);case first=>as_aux_lemma=>
  by_cases D:0<Al l (a+3) 3
  .have H:decide ((0:Int)<((Al l (a+3) 3:Nat):Int))=true:=AM;go_wp2_with fail;refine(Dt l v (a+3) _ w B C (by omega) (by omega)).mono ?_;rintro e w' ⟨rfl,rfl⟩;go_wp2_with fail;refine(Dx l (a+3) 1000 _ _ (by omega) (by omega) (by omega)).mono ?_;rintro e w' ⟨rfl,rfl⟩;have AN:=FH l (a+3) 1000 (by omega);go_wp2_with fail;refine(Ko (100+Al l (a+3) 1000) _ _ (by omega) (by omega)).mono ?_;rintro e w' ⟨rfl,rfl⟩;have BD:=Hc (100+Al l (a+3) 1000);generalize AZ:BG (100+Al l (a+3) 1000)=Ai at *;have AJ:=O AZ;unfold AR;go_wp2_with fail;go_meet;have e:IN fr (BN l a)=(c++(([99,114,101,100,105,116,32,118,111,108,117,110,116,97,114,121,59,32,99,114,101,100,105,116,32,117,110,101,109,112,108,111,121,101,100,32,108,105,109,105,116,32]++t)++[59,32]))++((Tb++Ai)++[59,32]):=by
    rw[ACU fr D,I.o,<-U.o,<-AJ.o];(try exact Lp)
   refine⟨IN fr (BN l a),?_,?_,rfl,rfl⟩
   .refine Ul ?_;rfl
   .rw[e];simp only[Cp,CB,EE,Tb];omega
  .have H:decide ((0:Int)<((Al l (a+3) 3:Nat):Int))=false:=AM;go_wp2_with fail;go_meet;have e:IN fr (BN l a)=c++(([99,114,101,100,105,116,32,118,111,108,117,110,116,97,114,121,59,32,99,114,101,100,105,116,32,117,110,101,109,112,108,111,121,101,100,32,108,105,109,105,116,32]++t)++[59,32]):=by
    rw[ACV fr D,I.o,<-U.o];(try exact Lp)
   refine⟨IN fr (BN l a),?_,?_,rfl,rfl⟩
   .exact X'
   .refine Yg ?_;omega
 obtain⟨f,rfl,AP,K,rfl⟩:=hcut;go_wp2_with fail;refine(Dt l v (a+4) _ w B C (by omega) (by omega)).mono ?_;rintro e w' ⟨rfl,rfl⟩;go_wp2_with fail;refine(Dx l (a+4) 4 _ _ (by omega) (by omega) (by omega)).mono ?_;rintro e w' ⟨rfl,rfl⟩;have Av:=FH l (a+4) 4 (by omega);go_upto_if 70 with fail;go_cut [8] (λG F=>∃A:AE,G=.string ⟨A.toArray⟩/\A.length<=450/\Hid (A=KR fr (BN l a))/\w=F);case first=>as_aux_lemma=>
  by_cases D:Al l (a+4) 4=0
  .have H:(((Al l (a+4) 4:Nat):Int)==0)=true:=by simp[D]
   go_wp2_with fail;go_meet;have e:KR fr (BN l a)=(f)++WV:=by
    rw[ACS fr D,K.o];(try exact Lp)
   refine⟨KR fr (BN l a),?_,?_,rfl,rfl⟩
   .refine Ul ?_;rfl
   .rw[e];simp only[Cp,CB,EE,WV];omega
  .have H:(((Al l (a+4) 4:Nat):Int)==0)=false:=AM;go_wp2_with fail;go_meet;have e:KR fr (BN l a)=f:=by
    rw[ACT fr D,K.o];(try exact Lp)
   refine⟨KR fr (BN l a),?_,?_,rfl,rfl⟩
   .rw[e]
   .rw[e];exact Ap AP (by omega)
 obtain⟨g,rfl,A5,L,rfl⟩:=hcut;go_wp2_with fail;refine(Dt l v (a+5) _ w B C (by omega) (by omega)).mono ?_;rintro e w' ⟨rfl,rfl⟩;go_wp2_with fail;refine(Dx l (a+5) 300 _ _ (by omega) (by omega) (by omega)).mono ?_;rintro e w' ⟨rfl,rfl⟩;have Aw:=FH l (a+5) 300 (by omega);go_wp2_with fail;refine(TC (100+Al l (a+5) 300) _ _ (by omega) (by omega)).mono ?_;rintro e w' ⟨rfl,rfl⟩;have BE:=TD (100+Al l (a+5) 300);generalize Aa:Du (100+Al l (a+5) 300)=u at *;have V:=O Aa;unfold AR;go_wp2_with fail;refine(Dt l v (a+6) _ w B C (by omega) (by omega)).mono ?_;rintro e w' ⟨rfl,rfl⟩;go_wp2_with fail;refine(Dx l (a+6) 300 _ _ (by omega) (by omega) (by omega)).mono ?_;rintro e w' ⟨rfl,rfl⟩;have Ax:=FH l (a+6) 300 (by omega);go_wp2_with fail;refine(TC (400+Al l (a+6) 300) _ _ (by omega) (by omega)).mono ?_;rintro e w' ⟨rfl,rfl⟩;have BF:=TD (400+Al l (a+6) 300);generalize Ab:Du (400+Al l (a+6) 300)=x at *;have W:=O Ab;unfold AR;go_wp2_with fail;refine(Dt l v (a+7) _ w B C (by omega) (by omega)).mono ?_;rintro e w' ⟨rfl,rfl⟩;go_wp2_with fail;refine(Dx l (a+7) 4 _ _ (by omega) (by omega) (by omega)).mono ?_;rintro e w' ⟨rfl,rfl⟩;have Az:=FH l (a+7) 4 (by omega);go_wp2_with fail;refine(TC (1+Al l (a+7) 4) _ _ (by omega) (by omega)).mono ?_;rintro e w' ⟨rfl,rfl⟩;have BH:=TD (1+Al l (a+7) 4);generalize Ac:Du (1+Al l (a+7) 4)=y at *;have X:=O Ac;unfold AR;go_wp2_with fail;refine(Dt l v (a+8) _ w B C (by omega) (by omega)).mono ?_;rintro e w' ⟨rfl,rfl⟩;go_wp2_with fail;refine(Dx l (a+8) 12 _ _ (by omega) (by omega) (by omega)).mono ?_;rintro e w' ⟨rfl,rfl⟩;have A0:=FH l (a+8) 12 (by omega);go_wp2_with fail;refine(Ko (50+Al l (a+8) 12) _ _ (by omega) (by omega)).mono ?_;rintro e w' ⟨rfl,rfl⟩;have BI:=Hc (50+Al l (a+8) 12);generalize Ad:BG (50+Al l (a+8) 12)=AC at *;have Y:=O Ad;unfold AR;go_wp2_with fail;refine(Dt l v (a+9) _ w B C (by omega) (by omega)).mono ?_;rintro e w' ⟨rfl,rfl⟩;go_wp2_with fail;refine(Dx l (a+9) 6000 _ _ (by omega) (by omega) (by omega)).mono ?_;rintro e w' ⟨rfl,rfl⟩;have A1:=FH l (a+9) 6000 (by omega);go_wp2_with fail;refine(Ko (Al l (a+9) 6000) _ _ (by omega) (by omega)).mono ?_;rintro e w' ⟨rfl,rfl⟩;have BJ:=Hc (Al l (a+9) 6000);generalize Ae:BG (Al l (a+9) 6000)=AD at *;have Z:=O Ae;unfold AR;go_wp2_with fail;refine(Dt l v (a+10) _ w B C (by omega) (by omega)).mono ?_;rintro e w' ⟨rfl,rfl⟩;go_wp2_with fail;refine(Dx l (a+10) 900 _ _ (by omega) (by omega) (by omega)).mono ?_;rintro e w' ⟨rfl,rfl⟩;have Ak:=FH l (a+10) 900 (by omega);go_wp2_with fail;refine(Ko (Al l (a+10) 900) _ _ (by omega) (by omega)).mono ?_;rintro e w' ⟨rfl,rfl⟩;have A7:=Hc (Al l (a+10) 900);generalize AQ:BG (Al l (a+10) 900)=j at *;have N:=O AQ;unfold AR;go_wp2_with fail;refine(Dt l v (a+11) _ w B C (by omega) (by omega)).mono ?_;rintro e w' ⟨rfl,rfl⟩;go_wp2_with fail;refine(Dx l (a+11) 2000 _ _ (by omega) (by omega) (by omega)).mono ?_;rintro e w' ⟨rfl,rfl⟩;have Am:=FH l (a+11) 2000 (by omega);go_wp2_with fail;refine(Ko (Al l (a+11) 2000) _ _ (by omega) (by omega)).mono ?_;rintro e w' ⟨rfl,rfl⟩;have A8:=Hc (Al l (a+11) 2000);generalize AS:BG (Al l (a+11) 2000)=m at *;have P:=O AS;unfold AR;go_wp2_with fail;refine(Dt l v (a+12) _ w B C (by omega) (by omega)).mono ?_;rintro e w' ⟨rfl,rfl⟩;go_wp2_with fail;refine(Dx l (a+12) 60 _ _ (by omega) (by omega) (by omega)).mono ?_;rintro e w' ⟨rfl,rfl⟩;have An:=FH l (a+12) 60 (by omega);go_wp2_with fail;refine(TC (20+Al l (a+12) 60) _ _ (by omega) (by omega)).mono ?_;rintro e w' ⟨rfl,rfl⟩;have A9:=TD (20+Al l (a+12) 60);generalize AT:Du (20+Al l (a+12) 60)=n at *;have Q:=O AT;unfold AR;go_wp2_with fail;refine(Dt l v (a+13) _ w B C (by omega) (by omega)).mono ?_;rintro e w' ⟨rfl,rfl⟩;go_wp2_with fail;refine(Dx l (a+13) 5 _ _ (by omega) (by omega) (by omega)).mono ?_;rintro e w' ⟨rfl,rfl⟩;have Ao:=FH l (a+13) 5 (by omega);go_upto_if 158 with fail;go_cut [8] (λG F=>∃A:AE,G=.string ⟨A.toArray⟩/\A.length<=1400/\Hid (A=KQ fr (BN l a))/\w=F);case first=>as_aux_lemma=>
  by_cases D:0<Al l (a+13) 5
  .have H:decide ((0:Int)<((Al l (a+13) 5:Nat):Int))=true:=AM;go_wp2_with fail;go_meet;have e:KQ fr (BN l a)=(((((g++(((([105,110,100,101,120,32,49,57,54,48,32,49,59,32,105,110,100,101,120,32,49,57,56,48,32]++u)++[59,32,105,110,100,101,120,32,49,57,57,53,32])++x)++[59,32]))++(((([108,101,116,32,115,112,101,110,116,32,61,32,105,110,115,117,114,101,100,32,47,32]++AF)++[100,59,32,108,101,116,32,112,97,114,116,32,61,32,109,105,110,40,115,112,101,110,116,32,42,32])++y)++[44,32,48,46,56,48,41,59,32]))++(((((([103,114,97,110,116,32,111,108,100,32,105,102,32,97,103,101,32,62,61,32]++AC)++[32,97,110,100,32,105,110,115,117,114,101,100,32,62,61,32])++AD)++[100,32,112,97,121,32,109,97,120,40,98,97,115,101,32,42,32,112,97,114,116,44,32])++j)++[109,41,59,32]))++(((([103,114,97,110,116,32,100,105,115,97,98,105,108,105,116,121,32,105,102,32,105,110,115,117,114,101,100,32,62,61,32]++m)++[100,32,112,97,121,32,98,97,115,101,32,42,32])++n)++[59,32])))++WU:=by
    rw[ACQ fr D,L.o,<-V.o,<-W.o,<-b.o,<-X.o,<-Y.o,<-Z.o,<-N.o,<-P.o,<-Q.o];(try exact Lp)
   refine⟨KQ fr (BN l a),?_,?_,rfl,rfl⟩
   .refine Ul ?_;rfl
   .rw[e];simp only[Cp,CB,EE,WU];omega
  .have H:decide ((0:Int)<((Al l (a+13) 5:Nat):Int))=false:=AM;go_wp2_with fail;go_meet;have e:KQ fr (BN l a)=((((g++(((([105,110,100,101,120,32,49,57,54,48,32,49,59,32,105,110,100,101,120,32,49,57,56,48,32]++u)++[59,32,105,110,100,101,120,32,49,57,57,53,32])++x)++[59,32]))++(((([108,101,116,32,115,112,101,110,116,32,61,32,105,110,115,117,114,101,100,32,47,32]++AF)++[100,59,32,108,101,116,32,112,97,114,116,32,61,32,109,105,110,40,115,112,101,110,116,32,42,32])++y)++[44,32,48,46,56,48,41,59,32]))++(((((([103,114,97,110,116,32,111,108,100,32,105,102,32,97,103,101,32,62,61,32]++AC)++[32,97,110,100,32,105,110,115,117,114,101,100,32,62,61,32])++AD)++[100,32,112,97,121,32,109,97,120,40,98,97,115,101,32,42,32,112,97,114,116,44,32])++j)++[109,41,59,32]))++(((([103,114,97,110,116,32,100,105,115,97,98,105,108,105,116,121,32,105,102,32,105,110,115,117,114,101,100,32,62,61,32]++m)++[100,32,112,97,121,32,98,97,115,101,32,42,32])++n)++[59,32])):=by
    rw[ACR fr D,L.o,<-V.o,<-W.o,<-b.o,<-X.o,<-Y.o,<-Z.o,<-N.o,<-P.o,<-Q.o];(try exact Lp)
   refine⟨KQ fr (BN l a),?_,?_,rfl,rfl⟩
   .exact X'
   .refine Yg ?_;omega
 obtain⟨i,rfl,A6,M,rfl⟩:=hcut;go_wp2_with fail;refine(Dt l v (a+14) _ w B C (by omega) (by omega)).mono ?_;rintro e w' ⟨rfl,rfl⟩;go_wp2_with fail;refine(Dx l (a+14) 800 _ _ (by omega) (by omega) (by omega)).mono ?_;rintro e w' ⟨rfl,rfl⟩;have Aq:=FH l (a+14) 800 (by omega);go_wp2_with fail;refine(Ko (Al l (a+14) 800) _ _ (by omega) (by omega)).mono ?_;rintro e w' ⟨rfl,rfl⟩;have A_:=Hc (Al l (a+14) 800);generalize AU:BG (Al l (a+14) 800)=o at *;have R:=O AU;unfold AR;go_wp2_with fail;refine(Dt l v (a+15) _ w B C (by omega) (by omega)).mono ?_;rintro e w' ⟨rfl,rfl⟩;go_wp2_with fail;refine(Dx l (a+15) 300 _ _ (by omega) (by omega) (by omega)).mono ?_;rintro e w' ⟨rfl,rfl⟩;have Ar:=FH l (a+15) 300 (by omega);go_wp2_with fail;refine(Ko (10+Al l (a+15) 300) _ _ (by omega) (by omega)).mono ?_;rintro e w' ⟨rfl,rfl⟩;have A':=Hc (10+Al l (a+15) 300);generalize AV:BG (10+Al l (a+15) 300)=r at *;have S:=O AV;unfold AR;go_wp2_with fail;refine(Dt l v (a+16) _ w B C (by omega) (by omega)).mono ?_;rintro e w' ⟨rfl,rfl⟩;go_wp2_with fail;refine(Dx l (a+16) 400 _ _ (by omega) (by omega) (by omega)).mono ?_;rintro e w' ⟨rfl,rfl⟩;have As:=FH l (a+16) 400 (by omega);go_wp2_with fail;refine(Ko (Al l (a+16) 400) _ _ (by omega) (by omega)).mono ?_;rintro e w' ⟨rfl,rfl⟩;have BA:=Hc (Al l (a+16) 400);generalize AW:BG (Al l (a+16) 400)=s at *;have T:=O AW;unfold AR;go_wp2_with fail;refine(Dt l v (a+17) _ w B C (by omega) (by omega)).mono ?_;rintro e w' ⟨rfl,rfl⟩;go_wp2_with fail;refine(Dx l (a+17) 3 _ _ (by omega) (by omega) (by omega)).mono ?_;rintro e w' ⟨rfl,rfl⟩;have AL:=FH l (a+17) 3 (by omega);go_upto_if 195 with fail;go_cut [8] (λG F=>∃A:AE,G=.string ⟨A.toArray⟩/\A.length<=1800/\Hid (A=IOo fr (BN l a))/\w=F);case first=>as_aux_lemma=>
  by_cases D:0<Al l (a+17) 3
  .have H:decide ((0:Int)<((Al l (a+17) 3:Nat):Int))=true:=AM;go_wp2_with fail;refine(Dt l v (a+17) _ w B C (by omega) (by omega)).mono ?_;rintro e w' ⟨rfl,rfl⟩;go_wp2_with fail;refine(Dx l (a+17) 11 _ _ (by omega) (by omega) (by omega)).mono ?_;rintro e w' ⟨rfl,rfl⟩;have AL:=FH l (a+17) 11 (by omega);go_wp2_with fail;refine(TC (10*Al l (a+17) 11) _ _ (by omega) (by omega)).mono ?_;rintro e w' ⟨rfl,rfl⟩;have BB:=TD (10*Al l (a+17) 11);generalize AX:Du (10*Al l (a+17) 11)=Ah at *;have AH:=O AX;unfold AR;go_wp2_with fail;go_meet;have e:IOo fr (BN l a)=((i++(((([103,114,97,110,116,32,102,97,109,105,108,121,32,105,102,32,105,110,115,117,114,101,100,32,62,61,32]++o)++[100,32,112,97,121,32])++r)++[109,32,42,32,99,104,105,108,100,114,101,110,59,32]))++(([103,114,97,110,116,32,115,105,99,107,110,101,115,115,32,105,102,32,105,110,115,117,114,101,100,32,62,61,32]++s)++[100,32,112,97,121,32,98,101,115,116,40,51,41,32,47,32,49,50,32,42,32,48,46,55,48,59,32]))++((TZ++Ah)++[59,32]):=by
    rw[ACY fr D,M.o,<-R.o,<-S.o,<-T.o,<-AH.o];(try exact Lp)
   refine⟨IOo fr (BN l a),?_,?_,rfl,rfl⟩
   .refine Ul ?_;rfl
   .rw[e];simp only[Cp,CB,EE,TZ];omega
  .have H:decide ((0:Int)<((Al l (a+17) 3:Nat):Int))=false:=AM;go_wp2_with fail;go_meet;have e:IOo fr (BN l a)=(i++(((([103,114,97,110,116,32,102,97,109,105,108,121,32,105,102,32,105,110,115,117,114,101,100,32,62,61,32]++o)++[100,32,112,97,121,32])++r)++[109,32,42,32,99,104,105,108,100,114,101,110,59,32]))++(([103,114,97,110,116,32,115,105,99,107,110,101,115,115,32,105,102,32,105,110,115,117,114,101,100,32,62,61,32]++s)++[100,32,112,97,121,32,98,101,115,116,40,51,41,32,47,32,49,50,32,42,32,48,46,55,48,59,32]):=by
    rw[ACZ fr D,M.o,<-R.o,<-S.o,<-T.o];(try exact Lp)
   refine⟨IOo fr (BN l a),?_,?_,rfl,rfl⟩
   .exact X'
   .refine Yg ?_;omega
 obtain⟨d,rfl,AO,J,rfl⟩:=hcut;go_wp2_with fail;refine(Dt l v (a+18) _ w B C (by omega) (by omega)).mono ?_;rintro e w' ⟨rfl,rfl⟩;go_wp2_with fail;refine(Dx l (a+18) 3 _ _ (by omega) (by omega) (by omega)).mono ?_;rintro e w' ⟨rfl,rfl⟩;have At:=FH l (a+18) 3 (by omega);go_upto_if 212 with fail;go_cut [8] (λG F=>∃A:AE,G=.string ⟨A.toArray⟩/\A.length<=1900/\Hid (A=KS fr (BN l a))/\w=F);case first=>as_aux_lemma=>
  by_cases D:Al l (a+18) 3=0
  .have H:(((Al l (a+18) 3:Nat):Int)==0)=true:=by simp[D]
   go_wp2_with fail;go_meet;have e:KS fr (BN l a)=(d)++WW:=by
    rw[ACW fr D,J.o];(try exact Lp)
   refine⟨KS fr (BN l a),?_,?_,rfl,rfl⟩
   .refine Ul ?_;rfl
   .rw[e];simp only[Cp,CB,EE,WW];omega
  .have H:(((Al l (a+18) 3:Nat):Int)==0)=false:=AM;go_wp2_with fail;go_meet;have e:KS fr (BN l a)=d:=by
    rw[ACX fr D,J.o];(try exact Lp)
   refine⟨KS fr (BN l a),?_,?_,rfl,rfl⟩
   .rw[e]
   .rw[e];exact Ap AO (by omega)
 obtain⟨Ag,rfl,A4,AG,rfl⟩:=hcut;go_wp2;go_ret;refine⟨?_,rfl⟩;have e:MK fr (BN l a)=Ag++[125,32]:=by rw[AG.o];rfl
 rw[e];refine congrArg Ending.returned (Og ?_);exact pn
def QZ{P:Program}{f:FuncId}{args:Array AB}{w:AA}{n:Nat}{v:AB}
 (A:Calls P f args (w.drewN n) λe D=>e=.returned v/\w.drewN n=D):Calls P f args (w.drewN n) λe E=>e=.returned v/\∃m,E=w.drewN m:=
 A.mono λ_ _ ⟨B,C⟩=>⟨B,n,C.symm⟩
def Fo.drewN{w:AA}{v:AB}{l:Ay}(h:Fo w v l)(n:Nat):Fo (w.drewN n) v l:=h.below (Do DL n)
def JW(l:Ay)(v:AB)(s:ByteArray)(fr:AE)(a:Nat)(x:Int)(w:AA)(B:Fo w v l)(C:l.length<=1000000000000000000)(ha:a<=1000)(A:fr.length<=100)(D:s=⟨fr.toArray⟩)(E:x=(a:Int)):
 AI 94 #[.string s,v,x] w (BX (AR (MK fr (BN l a))) w):=by
 subst D;subst E;exact yO l v fr a w B C ha A
def dQ(n:Nat)(c:AE)(x:Int)(w:AA)(A:BG n=c)(B:n<1000000000000000000)(C:x=(n:Int)):
 AI 93 #[x] w (BX (.string ⟨c.toArray⟩) w):=by
 subst A;exact Ko n x w B C
def MJ(l:Ay)(a i:Nat):(MK (FO i) (BN l a)).length<=2000:=by
 rw[km];have A:=nT _ ((BN l a).lh i (VU l a));have B:=pD (BN l a) i;omega
def Js(i:Nat):(FO i).length<=100:=by
 rcases i with _|_|i<;>exact Jt AF
def ALk(l:Ay)(s:Nat)(w:AA)(e:Ending)(A:AA):Prop:=e=.returned (AR (textOf l s))/\Below w w A
def y9(l:Ay)(v:AB)(s:Nat)(w:AA)(L:Fo w v l)(A:l.length<=1000000000000000000)(M:s<3):
 AI 44 #[s,v] w (ALk l s w):=by
 have A2:=O L;rcases s with _|_|_|s
 .skip
  have H:=MJ l (0) 0;have I:=MJ l (3) 1;have J:=MJ l (5) 2;go_in;go_wp2_with fail;go_quiet ((first
   | (go_at_call 93;exact QZ (dQ 1 [48+1] _ _ AZ U E3))
   | (go_at_call 94;exact QZ (JW l v _ (FO 0) (0) _ _ fR A U (Js 0) AZ E3))))
  refine Bn (λF=>Below w w F) ?_ ?_
  .exact Do C8 _
  intro F hB;have B:=O (A2.o.below hB);have K:∀C E:AE,(if True then C else E)=C:=λC E=>Ab trivial;go_wp2_with fail;go_call Dt l v (31) _ _ B.o A U E3 as e w' ⟨rfl,rfl⟩;go_wp2_with fail;go_call Dx l (31) 3 _ _ U U U as e w' ⟨rfl,rfl⟩;by_cases hq:0<Al l (31) 3
  .have G:decide ((0:Int)<((Al l (31) 3:Nat):Int))=true:=AM;go_wp2_with fail;go_call JW l v _ (FO 1) (3) _ _ B.o A U (Js 1) AZ E3 as e w' ⟨rfl,rfl⟩;go_wp2_with fail;go_call Dt l v (37) _ _ B.o A U E3 as e w' ⟨rfl,rfl⟩;go_wp2_with fail;go_call Dx l (37) 3 _ _ U U U as e w' ⟨rfl,rfl⟩;by_cases hr:Al l (37) 3=0
   .have D:(((Al l (37) 3:Nat):Int)==0)=true:=SD;go_wp2_with fail;refine(JW l v _ (FO 2) (5) _ _ B.o A U (Js 2) AZ E3).mono ?_;exact ei
   .have D:(((Al l (37) 3:Nat):Int)==0)=false:=AM;exact ek
  .have G:decide ((0:Int)<((Al l (31) 3:Nat):Int))=false:=AM;go_wp2_with fail;go_call Dt l v (37) _ _ B.o A U E3 as e w' ⟨rfl,rfl⟩;go_wp2_with fail;go_call Dx l (37) 3 _ _ U U U as e w' ⟨rfl,rfl⟩;by_cases hr:Al l (37) 3=0
   .have D:(((Al l (37) 3:Nat):Int)==0)=true:=SD;go_wp2_with fail;refine(JW l v _ (FO 2) (5) _ _ B.o A U (Js 2) AZ E3).mono ?_;exact eo
   .have D:(((Al l (37) 3:Nat):Int)==0)=false:=AM;exact ej
 .skip
  have H:=MJ l (7) 0;have I:=MJ l (10) 1;have J:=MJ l (12) 2;go_in;go_wp2_with fail;go_quiet ((first
   | (go_at_call 93;exact QZ (dQ 2 [48+2] _ _ AZ U E3))
   | (go_at_call 94;exact QZ (JW l v _ (FO 0) (7) _ _ fR A U (Js 0) AZ E3))))
  refine Bn (λF=>Below w w F) ?_ ?_
  .exact Do C8 _
  intro F hB;have B:=O (A2.o.below hB);have K:∀C E:AE,(if True then C else E)=C:=λC E=>Ab trivial;go_wp2_with fail;go_call Dt l v (32) _ _ B.o A U E3 as e w' ⟨rfl,rfl⟩;go_wp2_with fail;go_call Dx l (32) 3 _ _ U U U as e w' ⟨rfl,rfl⟩;by_cases hq:0<Al l (32) 3
  .have G:decide ((0:Int)<((Al l (32) 3:Nat):Int))=true:=AM;go_wp2_with fail;go_call JW l v _ (FO 1) (10) _ _ B.o A U (Js 1) AZ E3 as e w' ⟨rfl,rfl⟩;go_wp2_with fail;go_call Dt l v (38) _ _ B.o A U E3 as e w' ⟨rfl,rfl⟩;go_wp2_with fail;go_call Dx l (38) 3 _ _ U U U as e w' ⟨rfl,rfl⟩;by_cases hr:Al l (38) 3=0
   .have D:(((Al l (38) 3:Nat):Int)==0)=true:=SD;go_wp2_with fail;refine(JW l v _ (FO 2) (12) _ _ B.o A U (Js 2) AZ E3).mono ?_;exact ei
   .have D:(((Al l (38) 3:Nat):Int)==0)=false:=AM;exact ek
  .have G:decide ((0:Int)<((Al l (32) 3:Nat):Int))=false:=AM;go_wp2_with fail;go_call Dt l v (38) _ _ B.o A U E3 as e w' ⟨rfl,rfl⟩;go_wp2_with fail;go_call Dx l (38) 3 _ _ U U U as e w' ⟨rfl,rfl⟩;by_cases hr:Al l (38) 3=0
   .have D:(((Al l (38) 3:Nat):Int)==0)=true:=SD;go_wp2_with fail;refine(JW l v _ (FO 2) (12) _ _ B.o A U (Js 2) AZ E3).mono ?_;exact eo
   .have D:(((Al l (38) 3:Nat):Int)==0)=false:=AM;exact ej
 .skip
  have H:=MJ l (14) 0;have I:=MJ l (17) 1;have J:=MJ l (19) 2;go_in;go_wp2_with fail;go_quiet ((first
   | (go_at_call 93;exact QZ (dQ 3 [48+3] _ _ AZ U E3))
   | (go_at_call 94;exact QZ (JW l v _ (FO 0) (14) _ _ fR A U (Js 0) AZ E3))))
  refine Bn (λF=>Below w w F) ?_ ?_
  .exact Do C8 _
  intro F hB;have B:=O (A2.o.below hB);have K:∀C E:AE,(if True then C else E)=C:=λC E=>Ab trivial;go_wp2_with fail;go_call Dt l v (33) _ _ B.o A U E3 as e w' ⟨rfl,rfl⟩;go_wp2_with fail;go_call Dx l (33) 3 _ _ U U U as e w' ⟨rfl,rfl⟩;by_cases hq:0<Al l (33) 3
  .have G:decide ((0:Int)<((Al l (33) 3:Nat):Int))=true:=AM;go_wp2_with fail;go_call JW l v _ (FO 1) (17) _ _ B.o A U (Js 1) AZ E3 as e w' ⟨rfl,rfl⟩;go_wp2_with fail;go_call Dt l v (39) _ _ B.o A U E3 as e w' ⟨rfl,rfl⟩;go_wp2_with fail;go_call Dx l (39) 3 _ _ U U U as e w' ⟨rfl,rfl⟩;by_cases hr:Al l (39) 3=0
   .have D:(((Al l (39) 3:Nat):Int)==0)=true:=SD;go_wp2_with fail;refine(JW l v _ (FO 2) (19) _ _ B.o A U (Js 2) AZ E3).mono ?_;exact ei
   .have D:(((Al l (39) 3:Nat):Int)==0)=false:=AM;exact ek
  .have G:decide ((0:Int)<((Al l (33) 3:Nat):Int))=false:=AM;go_wp2_with fail;go_call Dt l v (39) _ _ B.o A U E3 as e w' ⟨rfl,rfl⟩;go_wp2_with fail;go_call Dx l (39) 3 _ _ U U U as e w' ⟨rfl,rfl⟩;by_cases hr:Al l (39) 3=0
   .have D:(((Al l (39) 3:Nat):Int)==0)=true:=SD;go_wp2_with fail;refine(JW l v _ (FO 2) (19) _ _ B.o A U (Js 2) AZ E3).mono ?_;exact eo
   .have D:(((Al l (39) 3:Nat):Int)==0)=false:=AM;exact ej
 .omega
def AGH(c:UInt8)(w:AA):AI 288 #[.int .u8 (c.toNat:Int)] w (BX (.bool (GC c)) w):=by
 exact tX
def AIc(c:UInt8)(w:AA):AI 290 #[.int .u8 (c.toNat:Int)] w (BX (.bool (CD c)) w):=by
 exact tW
def drop_cons(s:ByteArray)(k:Nat)(h:k<s.size):s.data.toList.drop k=s[k]::s.data.toList.drop (k+1):=by
 rw[Kk Fq];rfl
def XN(s:ByteArray)(k:Nat)(A:¬k<s.size):s.data.toList.drop k=[]:=Mg (by simpa using Nat.not_lt.1 A)
def yj:∀n,n<256->∀m,m<256->(UInt8.ofNat n==UInt8.ofNat m)=decide (n=m):=L_
def Fa(c:UInt8)(m:Nat)(h:m<256):(c==UInt8.ofNat m)=decide (c.toNat=m):=by
 have:=yj c.toNat c.toNat_lt m h;exact E_
def zr(A:Bool)(c:UInt8)(r:AE)(h:c.toNat=10):CU A (c::r)=CU false r+1:=by
 have B:(c==10)=true:=by rw[show(10:UInt8)=UInt8.ofNat 10 from rfl,Fa c 10 U];simpa using h
 simp[CU,B]
def zq(A:Bool)(c:UInt8)(r:AE)(h:c.toNat=35):CU A (c::r)=CU true r+1:=by
 have B:(c==10)=false:=by rw[show(10:UInt8)=UInt8.ofNat 10 from rfl,Fa c 10 U];simp;omega
 have C:(c==35)=true:=by rw[show(35:UInt8)=UInt8.ofNat 35 from rfl,Fa c 35 U];simpa using h
 simp only[CU,B,C,DW,DV,CI]
def zl(A:Bool)(c:UInt8)(r:AE)(H:c.toNat≠10)(I:c.toNat≠35)(J:A=true\/c.toNat=9\/c.toNat=13\/c.toNat=32):CU A (c::r)=CU A r+1:=by
 have E:(c==10)=false:=by rw[show(10:UInt8)=UInt8.ofNat 10 from rfl,Fa c 10 U];simpa using H
 have F:(c==35)=false:=by rw[show(35:UInt8)=UInt8.ofNat 35 from rfl,Fa c 35 U];simpa using I
 have B:(c==9)=decide (c.toNat=9):=Fa c 9 U;have C:(c==13)=decide (c.toNat=13):=Fa c 13 U;have D:(c==32)=decide (c.toNat=32):=Fa c 32 U;have G:(!A&&c !=9&&c !=13&&c !=32)=false:=by
  simp only[bne,B,C,D];rcases J with h|h|h|h<;>simp[h]
 simp only[CU,E,F,G,DW,DV]
def zn(c:UInt8)(r:AE)(G:c.toNat≠10)(H:c.toNat≠35)(I:c.toNat≠9)(J:c.toNat≠13)(K:c.toNat≠32):CU false (c::r)=0:=by
 have D:(c==10)=false:=by rw[show(10:UInt8)=UInt8.ofNat 10 from rfl,Fa c 10 U];simpa using G
 have E:(c==35)=false:=by rw[show(35:UInt8)=UInt8.ofNat 35 from rfl,Fa c 35 U];simpa using H
 have A:(c==9)=decide (c.toNat=9):=Fa c 9 U;have B:(c==13)=decide (c.toNat=13):=Fa c 13 U;have C:(c==32)=decide (c.toNat=32):=Fa c 32 U;have F:(!false&&c !=9&&c !=13&&c !=32)=true:=by
  simp only[bne,A,B,C];simp[I,J,K]
 simp only[CU,D,E,F,DW,DV,CI]
def zm(A:Bool)(l:AE):CU A l<=l.length:=by
 induction l generalizing A with
 | nil=>simp[CU]
 | cons c F B=>
  have C:=B true;have D:=B false;have E:=B A;simp only[CU,CB];split
  .omega
  .split
   .omega
   .split<;>omega
def jl(s:ByteArray)(a:Nat)(w:AA)(i:s.size<=1000000000000000000)(ha:a<=s.size):
 AI 287 #[.string s,a] w λe d=>e=.returned (.int .i64 ((a+CU false (s.data.toList.drop a):Nat):Int))/\w=d:=by
 go_in;go_wp2;go_loop [1,5] (λJ f=>∃(A:Nat) (E:Bool),A<=s.size/\J=.int .i64 (A:Int)/\f=.bool E/\Hid (a+CU false (s.data.toList.drop a)=A+CU E (s.data.toList.drop A))) (λJ _=>s.size-(intOf J).toNat)
 case atStart=>exact⟨a,false,ha,rfl,rfl,rfl⟩
 case round=>
  obtain⟨A,E,g,rfl,rfl,D⟩:=hrel;by_cases Q:A<s.size
  .have C:=O (drop_cons s A Q);have j:=s[A].toNat_lt;have T:=O (zr E s[A] (s.data.toList.drop (A+1)));have V:=O (zq E s[A] (s.data.toList.drop (A+1)));have H:=O (zl E s[A] (s.data.toList.drop (A+1)));have W:=O (zn s[A] (s.data.toList.drop (A+1)));by_cases K:s[A].toNat=10
   .have X:((s[A].toNat:Int)==10)=true:=AM;have B:=O K;go_wp2;go_round
    case rel=>exact⟨A+1,false,U,A7,rfl,by show _=_;rw[D.o,C.o,T.o B.o];omega⟩
    case measure=>exact A5
   have X:((s[A].toNat:Int)==10)=false:=AM;by_cases N:s[A].toNat=35
   .have Y:((s[A].toNat:Int)==35)=true:=AM;have B:=O N;go_wp2;go_round
    case rel=>exact⟨A+1,true,U,A7,rfl,by show _=_;rw[D.o,C.o,V.o B.o];omega⟩
    case measure=>exact A5
   have Y:((s[A].toNat:Int)==35)=false:=AM;have F:=O K;have G:=O N;cases E with
   | true=>
    go_wp2;go_round
    case rel=>exact⟨A+1,true,U,A7,rfl,by show _=_;rw[D.o,C.o,H.o F.o G.o (.inl rfl)];omega⟩
    case measure=>exact A5
   | false=>
    by_cases P:s[A].toNat=9
    .have Z:((s[A].toNat:Int) !=9)=false:=AM;have B:=O P;go_wp2;go_round
     case rel=>exact⟨A+1,false,U,A7,rfl,by show _=_;rw[D.o,C.o,H.o F.o G.o (.inr (.inl B.o))];omega⟩
     case measure=>exact A5
    have Z:((s[A].toNat:Int) !=9)=true:=AM;by_cases L:s[A].toNat=13
    .have b:((s[A].toNat:Int) !=13)=false:=AM;have B:=O L;go_wp2;go_round
     case rel=>exact⟨A+1,false,U,A7,rfl,by show _=_;rw[D.o,C.o,H.o F.o G.o (.inr (.inr (.inl B.o)))];omega⟩
     case measure=>exact A5
    have b:((s[A].toNat:Int) !=13)=true:=AM;by_cases M:s[A].toNat=32
    .have c:((s[A].toNat:Int) !=32)=false:=AM;have B:=O M;go_wp2;go_round
     case rel=>exact⟨A+1,false,U,A7,rfl,by show _=_;rw[D.o,C.o,H.o F.o G.o (.inr (.inr (.inr B.o)))];omega⟩
     case measure=>exact A5
    have c:((s[A].toNat:Int) !=32)=true:=AM;have B:=O P;have R:=O L;have S:=O M;go_wp2;go_ret;exact⟨GZ (by have I:=D.o;rw[C.o,W.o F.o G.o B.o R.o S.o] at I;omega),rfl⟩
  .have C:=O (XN s A Q);go_wp2;go_ret;exact⟨GZ (by have I:=D.o;rw[C.o] at I;simp only[CU] at I;omega),rfl⟩
def Ka(c:UInt8)(b:Bool)(A:GC c=b)(w:AA):AI 288 #[.int .u8 (c.toNat:Int)] w (BX (.bool b) w):=A▸AGH c w
def Kn(c:UInt8)(b:Bool)(A:CD c=b)(w:AA):AI 290 #[.int .u8 (c.toNat:Int)] w (BX (.bool b) w):=A▸AIc c w
def AAZ(p:Bool)(c:UInt8)(r:AE)(h:GC c=true\/CD c=true\/c.toNat=95\/(p=true/\c.toNat=46)):runN p (c::r)=runN p r+1:=by
 have A:(c==95)=decide (c.toNat=95):=Fa c 95 U;have B:(c==46)=decide (c.toNat=46):=Fa c 46 U;have C:(HY c||(p&&c==46))=true:=by
  simp only[HY,A,B];rcases h with h|h|h|⟨h,D⟩
  .simp[h]
  .simp[h]
  .simp[h]
  .simp[h,D]
 rw[runN,Ab C]
def AAX(p:Bool)(c:UInt8)(r:AE)(D:GC c=false)(E:CD c=false)(F:c.toNat≠95)(G:¬(p=true/\c.toNat=46)):runN p (c::r)=0:=by
 have A:(c==95)=decide (c.toNat=95):=Fa c 95 U;have B:(c==46)=decide (c.toNat=46):=Fa c 46 U;have C:¬(HY c||(p&&c==46))=true:=by
  simp only[HY,A,B];cases p<;>simp_all
 rw[runN,AU C]
def j5(s:ByteArray)(a:Nat)(p:Bool)(w:AA)(X:s.size<=1000000000000000000)(ha:a<=s.size):
 AI 289 #[.string s,a,p] w λe C=>e=.returned (.int .i64 ((runN p (s.data.toList.drop a):Nat):Int))/\w=C:=by
 go_in;go_wp2;go_loop [7] (λP=>∃(A:Nat),a+A<=s.size/\P=.int .i64 (A:Int)/\Hid (runN p (s.data.toList.drop a)=A+runN p (s.data.toList.drop (a+A)))) (λP=>s.size-(intOf P).toNat)
 case atStart=>exact⟨0,ha,rfl,gy⟩
 case round=>
  obtain⟨A,W,rfl,G⟩:=hrel;by_cases R:a+A<s.size
  .have V:decide ((a:Int)+(A:Int)<(s.size:Int))=true:=AM;have F:=O (drop_cons s (a+A) R);have I:=O (AAZ p s[a+A] (s.data.toList.drop (a+A+1)));have Q:=O (AAX p s[a+A] (s.data.toList.drop (a+A+1)));have Y:=s[a+A].toNat_lt;cases M:GC s[a+A] with
   | true=>
    have E:=O M;clear M;go_wp2_with (first
     | (go_at_call 288;refine(Ka _ _ E.o _).mono ?_;rintro e C ⟨rfl,rfl⟩)
     | (go_at_call 290;refine(Kn _ _ D.o _).mono ?_;rintro e C ⟨rfl,rfl⟩))
    go_round
    case rel=>exact⟨A+1,U,A7,by have B:=G.o;rw[F.o,I.o (.inl E.o)] at B;show _=A+1+runN _ (s.data.toList.drop (a+A+1));omega⟩
    case measure=>exact A5
   | false=>
    have E:=O M;clear M;cases L:CD s[a+A] with
    | true=>
     have D:=O L;clear L;go_wp2_with (first
      | (go_at_call 288;refine(Ka _ _ E.o _).mono ?_;rintro e C ⟨rfl,rfl⟩)
      | (go_at_call 290;refine(Kn _ _ D.o _).mono ?_;rintro e C ⟨rfl,rfl⟩))
     go_round
     case rel=>exact⟨A+1,U,A7,by have B:=G.o;rw[F.o,I.o (.inr (.inl D.o))] at B;show _=A+1+runN _ (s.data.toList.drop (a+A+1));omega⟩
     case measure=>exact A5
    | false=>
     have D:=O L;clear L;by_cases K:s[a+A].toNat=95
     .have S:((s[a+A].toNat:Int)==95)=true:=AM;have H:=O K;clear K;go_wp2_with (first
       | (go_at_call 288;refine(Ka _ _ E.o _).mono ?_;rintro e C ⟨rfl,rfl⟩)
       | (go_at_call 290;refine(Kn _ _ D.o _).mono ?_;rintro e C ⟨rfl,rfl⟩))
      go_round
      case rel=>exact⟨A+1,U,A7,by have B:=G.o;rw[F.o,I.o (.inr (.inr (.inl H.o)))] at B;show _=A+1+runN _ (s.data.toList.drop (a+A+1));omega⟩
      case measure=>exact A5
     .have S:((s[a+A].toNat:Int)==95)=false:=AM;have H:=O K;clear K;cases p with
      | true=>
       by_cases J:s[a+A].toNat=46
       .have T:((s[a+A].toNat:Int)==46)=true:=AM;have N:=O J;clear J;go_wp2_with (first
         | (go_at_call 288;refine(Ka _ _ E.o _).mono ?_;rintro e C ⟨rfl,rfl⟩)
         | (go_at_call 290;refine(Kn _ _ D.o _).mono ?_;rintro e C ⟨rfl,rfl⟩))
        go_round
        case rel=>exact⟨A+1,U,A7,by have B:=G.o;rw[F.o,I.o (.inr (.inr (.inr ⟨trivial,N.o⟩)))] at B;show _=A+1+runN _ (s.data.toList.drop (a+A+1));omega⟩
        case measure=>exact A5
       .have T:((s[a+A].toNat:Int)==46)=false:=AM;have N:=O J;clear J;go_wp2_with (first
         | (go_at_call 288;refine(Ka _ _ E.o _).mono ?_;rintro e C ⟨rfl,rfl⟩)
         | (go_at_call 290;refine(Kn _ _ D.o _).mono ?_;rintro e C ⟨rfl,rfl⟩))
        go_ret;exact⟨GZ (by have B:=G.o;rw[F.o,Q.o E.o D.o H.o (λh=>N.o h.2)] at B;omega),rfl⟩
      | false=>
       go_wp2_with (first
        | (go_at_call 288;refine(Ka _ _ E.o _).mono ?_;rintro e C ⟨rfl,rfl⟩)
        | (go_at_call 290;refine(Kn _ _ D.o _).mono ?_;rintro e C ⟨rfl,rfl⟩))
       go_ret;exact⟨GZ (by have B:=G.o;rw[F.o,Q.o E.o D.o H.o (λh=>absurd h AH)] at B;omega),rfl⟩
  .have V:decide ((a:Int)+(A:Int)<(s.size:Int))=false:=AM;have F:=O (XN s (a+A) R);go_wp2;go_ret;exact⟨GZ (by have B:=G.o;rw[F.o] at B;simp only[runN] at B;omega),rfl⟩
def AIB(s:ByteArray)(a:Nat)(h:a+1<s.size):(s.extract a (a+2)).toList=[s[a],s[a+1]]:=by
 have A:(s.extract a (a+2)).toList=(s.data.toList.drop a).take 2:=by
  rw[ByteArray.toList_eq];simp[Wb]
 rw[A,drop_cons s a U,drop_cons s (a+1) h];rfl
def Vm(x:Nat):Prop:=x=60\/x=62\/x=61\/x=43\/x=45\/x=42\/x=47\/x=40\/x=41\/x=123\/x=125\/x=44\/x=59
def z1:∀n,n<256->(Sn (UInt8.ofNat n)=true↔(n=60\/n=62\/n=61\/n=43\/n=45\/n=42\/n=47\/n=40\/n=41\/n=123\/n=125\/n=44\/n=59)):=L_
def z6(c:UInt8):Sn c=true↔Vm c.toNat:=by
 have:=z1 c.toNat c.toNat_lt;rw[UInt8.ofNat_toNat] at this;exact D2
def sign_one(c:UInt8)(r:AE)(I:∀d q,r=d::q->[c,d]≠[60,61]/\[c,d]≠[62,61]/\[c,d]≠[60,62]):(Vm c.toNat->II (c::r)=1)/\(¬Vm c.toNat->II (c::r)=0):=by
 have G:=z6 c;have H:II (c::r)=if Sn c=true then 1 else 0:=by
  cases r with
  | nil=>rfl
  | cons d q=>
   obtain⟨D,E,F⟩:=I d q rfl;have J:((c==60&&d==61)||(c==62&&d==61)||(c==60&&d==62))=false:=by
    simp only[ne_eq,Mh,Jx] at D E F;simp only[Bool.or_eq_false_iff,Bool.and_eq_false_imp,C7];exact⟨⟨λA=>by simpa using λB=>D ⟨A,B⟩,λA=>by simpa using λB=>E ⟨A,B⟩⟩,λA=>by simpa using λB=>F ⟨A,B⟩⟩
   simp only[II,J,DW,DV]
 rw[H];constructor
 .intro C;rw[Ab (G.2 C)]
 .intro C;rw[AU (λq=>C (G.1 q))]
def aZ(c d:UInt8)(q:AE)(A:[c,d]=[60,61]\/[c,d]=[62,61]\/[c,d]=[60,62]):II (c::d::q)=2:=by
 rcases A with A|A|A<;>(simp only[Mh,Jx] at A;obtain⟨rfl,rfl⟩:=A;rfl)
def zy(s:ByteArray)(a:Nat)(w:AA)(L:s.size<=1000000000000000000)(ha:a<s.size):
 AI 291 #[.string s,a] w λe J=>e=.returned (.int .i64 ((II (s.data.toList.drop a):Nat):Int))/\w=J:=by
 have HD:=O (drop_cons s a ha);go_in;by_cases F:a+1<s.size
 .have H:decide ((a:Int)+1<(s.size:Int))=true:=AM;have B:=O (AIB s a F);have wa:=O (drop_cons s (a+1) F);by_cases D:(s.extract a (a+2)).toList=[60,61]
  .have By:=O (aZ s[a] s[a+1] (s.data.toList.drop (a+1+1)) (.inl (B.o.symm.trans D)));exact eI
  by_cases E:(s.extract a (a+2)).toList=[62,61]
  .have By:=O (aZ s[a] s[a+1] (s.data.toList.drop (a+1+1)) (.inr (.inl (B.o.symm.trans E))));exact eI
  by_cases C:(s.extract a (a+2)).toList=[60,62]
  .have By:=O (aZ s[a] s[a+1] (s.data.toList.drop (a+1+1)) (.inr (.inr (B.o.symm.trans C))));exact eI
  have K:((s.extract a (a+2)).toList==[60,62])=false:=by simpa using C
  have hs1:=sign_one s[a] (s.data.toList.drop (a+1)) (λG I A=>by
   rw[wa.o] at A;cases A;rw[B.o] at D E C;exact⟨D,E,C⟩)
  exact si
 .have H:decide ((a:Int)+1<(s.size:Int))=false:=AM;have hs1:=sign_one s[a] (s.data.toList.drop (a+1)) (λG I A=>by
   rw[XN s (a+1) F] at A;cases A)
  exact si
def AKh(s:ByteArray):s=⟨s.data.toList.toArray⟩:=by
 apply ByteArray.ext;simp
def dv{a:ByteArray}{l:AE}(A:a.data.toList=l):a=⟨l.toArray⟩:=by subst A;exact AKh a
def dH(s:ByteArray)(k:Nat):(s.extract 0 k).data.toList=s.data.toList.take k:=by
 simp[Wb]
def nk(s:ByteArray)(k:Nat)(h:k<=s.size):(s.extract k s.size).data.toList=s.data.toList.drop k:=by
 simp[Wb];exact HB AH
def mV(s:ByteArray)(h:0<s.size):s.data.toList.getLast? = some (s[s.size-1]' U):=by
 rw[List.getLast?_eq_getElem?,BL AM];simp;rfl
def oK(s:ByteArray)(h:0<s.size)(A:(s[s.size-1]' U).toNat=100):DO s.data.toList=(s.data.toList.take (s.size-1),3):=by
 have e:(s[s.size-1]' U)=100:=by
  have:=congrArg UInt8.ofNat A;exact E_
 exact qN
def oJ(s:ByteArray)(h:0<s.size)(A:(s[s.size-1]' U).toNat=109):DO s.data.toList=(s.data.toList.take (s.size-1),4):=by
 have e:(s[s.size-1]' U)=109:=by
  have:=congrArg UInt8.ofNat A;exact E_
 exact qN
def oI(s:ByteArray)(h:0<s.size)(D:(s[s.size-1]' U).toNat≠100)(E:(s[s.size-1]' U).toNat≠109):DO s.data.toList=(s.data.toList,2):=by
 have B:(s[s.size-1]' U)≠100:=λA=>D (by rw[A];rfl);have C:(s[s.size-1]' U)≠109:=λA=>E (by rw[A];rfl);unfold DO;rw[mV s h];split
 .rename_i A;exact absurd (Ld A) B
 .rename_i A;exact absurd (Ld A) C
 .rfl
structure AL8(l a b:AE)(Ey:Int):Prop where
 ha:a=(DO l).1.takeWhile B4
 hb:b=((DO l).1.dropWhile B4).drop 1
 hd:Ey=(DO l).2
 dot:(DO l).1.any (λc=>c==46)=true->1<=b.length/\b.length<=4
 dU:(a++b).all CD=true
 a1:1<=a.length
 a9:a.length<=9
 a0:1<a.length->a.head?≠some 48
def bS{l a b:AE}{D:Int}(A:G3 l=some (a,b,D)):AL8 l a b D:=by
 unfold G3 at A;simp only at A;split at A
 .cases A
 .rename_i B;split at A
  .cases A
  .rename_i E;split at A
   .cases A
   .rename_i C;simp only[CW,Hg] at A;obtain⟨rfl,rfl,rfl⟩:=A;simp only[At,Ki,CJ,not_and,not_or,Nat.not_lt,C7] at B C;refine⟨rfl,rfl,rfl,λF=>?_,by simpa using E,?_,?_,?_⟩
    .obtain⟨G,H⟩:=B F;exact⟨G,H⟩
    .omega
    .omega
    .exact C.2
def nz(c:UInt8):B4 c=false↔c.toNat=46:=by
 have:=Fa c 46 U;unfold B4;rw[show(46:UInt8)=UInt8.ofNat 46 from rfl,bne,this];simp
def yp(c:UInt8)(r:AE)(A:c.toNat=46):((c::r).takeWhile B4).length=0:=by
 rw[Qx,(nz c).2 A];rfl
def ym(c:UInt8)(r:AE)(A:c.toNat≠46):((c::r).takeWhile B4).length=(r.takeWhile B4).length+1:=by
 have:B4 c=true:=by
  cases B:B4 c with
  | true=>rfl
  | false=>exact absurd ((nz c).1 B) A
 rw[Qx,this];rfl
def yl(l:AE):l.take (l.takeWhile B4).length=l.takeWhile B4:=by
 exact rJ
def yo(l:AE):l.drop (l.takeWhile B4).length=l.dropWhile B4:=by
 exact rT
def yn(l:AE):(l.takeWhile B4).length<=l.length:=by
 have:=dM l;omega
def AL7(a b:AE)(A:Int)(w:AA)(e:Ending)(B:AA):Prop:=e=.returned (.tuple #[.string ⟨a.toArray⟩,.string ⟨b.toArray⟩,A,true])/\w=B
def lM(s:ByteArray)(a b:AE)(M:Int)(w:AA)(y:s.size<=1000000000000000000)(j:G3 s.data.toList=some (a,b,M)):
 AI 211 #[.string s] w (AL7 a b M w):=by
 have BA:=O (bS j);clear j;have Q:0<s.size:=by
  have R:=BA.o.a1;have r:=yn (DO s.data.toList).1;have t:=oN s.data.toList;rw[BA.o.ha] at R;rcases Mf s.size with K|K
  .have:s.data.toList=[]:=PD.1 (by simpa using K);rw[this] at R;exact absurd R AD
  .exact K
 have AV:=(s[s.size-1]' U).toNat_lt;go_in;go_upto_if 24 with fail;go_cut [0,6] (λx F z=>∃(A:ByteArray) (d:Int),x=.string A/\F=.int .i64 d/\A.size<=1000000000000000000/\Hid (DO s.data.toList=(A.data.toList,d))/\w=z);case first=>as_aux_lemma=>
  have K:decide ((0:Int)<(s.size:Int))=true:=AM;by_cases C:(s[s.size-1]' U).toNat=100
  .have H:=O (oK s Q C);have L:(((s[s.size-1]' U).toNat:Int)==100)=true:=AM;clear C;go_wp2_with fail;go_meet;exact⟨_,3,rfl,rfl,AM,Zk,rfl⟩
  .have L:(((s[s.size-1]' U).toNat:Int)==100)=false:=AM;by_cases I:(s[s.size-1]' U).toNat=109
   .have H:=O (oJ s Q I);have q:(((s[s.size-1]' U).toNat:Int)==109)=true:=AM;clear C I;go_wp2_with fail;go_meet;exact⟨_,4,rfl,rfl,AM,Zk,rfl⟩
   .have H:=O (oI s Q C I);have q:(((s[s.size-1]' U).toNat:Int)==109)=false:=AM;clear C I;go_wp2_with fail;go_meet;exact⟨_,2,rfl,rfl,y,H.o,rfl⟩
 obtain⟨A,d,rfl,rfl,AU,f,rfl⟩:=hcut;go_wp2;go_loop [8,9] (λx F=>∃(k B:Nat) (E:Int),x=.int .i64 (B:Int)/\F=.int .i64 E/\E+1=(k:Int)/\k<=A.size/\B<=A.size/\Hid (B=k+((A.data.toList.drop k).takeWhile B4).length)) (λ_ F=>(intOf F+1).toNat)
 case atStart=>exact⟨A.size,A.size,(A.size:Int)-1,rfl,rfl,U,U,U,by show _=_;rw[XN A A.size U];rfl⟩
 case round=>
  obtain⟨k,B,E,rfl,rfl,i,AS,AT,T⟩:=hrel;rcases k with _|k
  .obtain rfl:E = -1:=U;have G:=O (show B=(A.data.toList.takeWhile B4).length by have:=T.o;simpa using this);clear T i;have J:Hid ((DO s.data.toList).1=A.data.toList):=by show _=_;rw[f.o]
   have hdd:Hid (M=d):=by show _=_;rw[BA.o.hd,f.o]
   have N:(A.extract 0 B)=⟨a.toArray⟩:=dv (by rw[dH,G.o,yl,BA.o.ha,J.o]);have V:a.length=B:=by rw[BA.o.ha,J.o,G.o]
   have AG:=BA.o.a1;have AJ:=BA.o.a9;have P:B<A.size->A.data.toList.any (λc=>c==46)=true:=λh=>eB _ (by
    have r:=dM A.data.toList;have t:=G.o;have AO:A.data.toList.length=A.size:=AH;omega)
   have D:A.data.toList.drop (B+1)=b:=by
    rw[BA.o.hb,J.o,<-I5,G.o,yo]
   have W:=O N;have AC:=O V;have U7:Hid (∀k (h:k<((⟨a.toArray⟩:ByteArray)++⟨b.toArray⟩).size),CD (((⟨a.toArray⟩:ByteArray)++⟨b.toArray⟩)[k]'h)=true):=by
    intro k h;have g:=BA.o.dU;rw[DS] at g;refine g _ ?_;have e:(((⟨a.toArray⟩:ByteArray)++⟨b.toArray⟩)[k]'h)=(a++b)[k]'(by rw[GV] at h;exact h):=by
     simp only[GV];rfl
    rw[e];exact Gq _
   by_cases hlt:B<A.size
   .have u:=BA.o.dot (by rw[J.o];exact P hlt);obtain⟨AK,AL⟩:=u;have m:b.length=A.size-(B+1):=by rw[<-D];simp
    have Y:A.extract (B+1) A.size=⟨b.toArray⟩:=dv (by rw[nk _ _ U,D]);have n:=O Y;have AP:1<=A.size-(B+1):=U;have AQ:A.size-(B+1)<=4:=U;have AF:=O m;clear Y m N V P D;go_wp2_with fail;rw[W.o,n.o];exact uE
   .have S:b=[]:=by rw[<-D];exact Mg AM
    have AR:b.length<=4:=by rw[S];simp
    have Z:ByteArray.mk #[]=⟨b.toArray⟩:=by rw[S]
    have o:=O Z;clear S Z;have l:B=A.size:=U;have AB:=O l;clear N V P D l;have AN:decide (B<A.size)=false:=JP;go_wp2_with fail;rw[W.o];rw[o.o];exact uE
  .obtain rfl:E=(k:Int):=U;have X:=O (drop_cons A k U);clear i;by_cases c:A[k].toNat=46
   .have L:((A[k].toNat:Int)==46)=true:=AM;have H:=O (yp A[k] (A.data.toList.drop (k+1)) c);clear c;go_wp2;go_round
    case rel=>exact⟨k,k,_,rfl,rfl,U,U,U,by show _=_;rw[X.o,H.o];rfl⟩
    case measure=>simp[intOf]
   .have L:((A[k].toNat:Int)==46)=false:=AM;have H:=O (ym A[k] (A.data.toList.drop (k+1)) c);clear c;go_wp2;go_round
    case rel=>exact⟨k,B,_,rfl,rfl,U,U,U,by show _=_;rw[X.o,H.o];have:=T.o;omega⟩
    case measure=>simp[intOf]
def GT(n d:Int):Bool:=decide (1<=d)&&decide (d<=1000000000)&&decide (-1000000000000000<=n)&&decide (n<=1000000000000000)&&(Nat.gcd n.natAbs d.natAbs==1)
def yN(v:EP):GT v.n v.d=Oe v:=by
 unfold GT Oe;cases A:decide (1<=v.d) with
 | false=>simp
 | true=>
  have:=Ic A;rw[show v.d.natAbs=v.d.toNat by omega]
def T3(a0 b0:Nat)(w:AA)(ha:a0<18446744073709551616)(hb:b0<18446744073709551616):
 AI 174 #[.int .u64 (a0:Int),.int .u64 (b0:Int)] w (Bz (.int .u64 (Nat.gcd a0 b0:Int)) w):=by
 exact tv
def kD(a0 b0:Nat)(w:AA)(ha:a0<18446744073709551616)(hb:b0<18446744073709551616):
 AI 178 #[.int .u64 (a0:Int),.int .u64 (b0:Int)] w (Bz (.int .u64 (Nat.gcd a0 b0:Int)) w):=by
 exact tv
def VX(x:Int):IntKind.u64.wrap x=x%18446744073709551616:=by simp[IntKind.wrap,IntKind.bits,IntKind.signed]
def Sl(x:Int)(w:AA)(A : -9223372036854775808<=x)(B:x<=9223372036854775807):
 AI 175 #[x] w (BX (.int .u64 (x.natAbs:Int)) w):=by
 exact rI
def Ok(x:Int)(w:AA)(A : -9223372036854775808<=x)(B:x<=9223372036854775807):
 AI 179 #[x] w (BX (.int .u64 (x.natAbs:Int)) w):=by
 exact rI
def AHn(n d:Int)(w:AA):
 AI 100 #[.agg #[n,d]] w (Bz (.bool (GT n d)) w):=by
 go_in;go_wp2;have hB:Below w w (w.alloc (.cells #[n,d] 119)):=(AN _ _).alloc AK _;rcases h1:decide (1<=d) with _|_
 .
   refine EZ ?_;repeat (go_big_quiet_step ((first
    | (go_at_call 175;exact EN (Sl _ _ U U))
    | (go_at_call 174;exact Hh (T3 _ _ _ U U)))))
   refine Cj ?_;rintro w2 ⟨⟨w3,hb3⟩,hw''⟩;subst hw'';go_wp2;go_ret;refine⟨D8 ?_,hB.trans K6⟩;simp[GT,h1]
 rcases h2:decide (d<=1000000000) with _|_
 .
   refine EZ ?_;repeat (go_big_quiet_step ((first
    | (go_at_call 175;exact EN (Sl _ _ U U))
    | (go_at_call 174;exact Hh (T3 _ _ _ U U)))))
   refine Cj ?_;rintro w2 ⟨⟨w3,hb3⟩,hw''⟩;subst hw'';go_wp2;go_ret;refine⟨D8 ?_,hB.trans K6⟩;simp[GT,h1,h2]
 rcases h3:decide (-1000000000000000<=n) with _|_
 .
   refine EZ ?_;repeat (go_big_quiet_step ((first
    | (go_at_call 175;exact EN (Sl _ _ U U))
    | (go_at_call 174;exact Hh (T3 _ _ _ U U)))))
   refine Cj ?_;rintro w2 ⟨⟨w3,hb3⟩,hw''⟩;subst hw'';go_wp2;go_ret;refine⟨D8 ?_,hB.trans K6⟩;simp[GT,h1,h2,h3]
 rcases h4:decide (n<=1000000000000000) with _|_
 .
   refine EZ ?_;repeat (go_big_quiet_step ((first
    | (go_at_call 175;exact EN (Sl _ _ U U))
    | (go_at_call 174;exact Hh (T3 _ _ _ U U)))))
   refine Cj ?_;rintro w2 ⟨⟨w3,hb3⟩,hw''⟩;subst hw'';go_wp2;go_ret;refine⟨D8 ?_,hB.trans K6⟩;simp[GT,h1,h2,h3,h4]
 have A:=Ic h1;have B:=Ic h2;have C:=Ic h3;have D:=Ic h4;have E:IntKind.u64.wrap d=d:=by rw[VX];omega
 refine EZ ?_;repeat (go_big_quiet_step ((first
  | (go_at_call 175;exact EN (Sl _ _ U U))
  | (go_at_call 174;exact Hh (T3 _ _ _ U U)))))
 exact s5
def Sy(A:Nat)(d:Int)(w:AA)(ha:A<18446744073709551616)(B:0<=d)(D:d<18446744073709551616):
 AI 178 #[.int .u64 (A:Int),.int .u64 d] w (Bz (.int .u64 (Nat.gcd A d.natAbs:Int)) w):=by
 obtain⟨C,rfl⟩:=O' B;exact kD A C w ha U
def ax(n d:Int)(w:AA):
 AI 111 #[.agg #[n,d]] w (Bz (.bool (GT n d)) w):=by
 go_in;go_wp2;have hB:Below w w (w.alloc (.cells #[n,d] 119)):=(AN _ _).alloc AK _;rcases h1:decide (1<=d) with _|_
 .
   refine EZ ?_;repeat (go_big_quiet_step ((first
    | (go_at_call 179;exact EN (Ok _ _ U U))
    | (go_at_call 178;exact Hh (Sy _ _ _ U U U)))))
   refine Cj ?_;rintro w2 ⟨⟨w3,hb3⟩,hw''⟩;subst hw'';go_wp2;go_ret;refine⟨D8 ?_,hB.trans K6⟩;simp[GT,h1]
 rcases h2:decide (d<=1000000000) with _|_
 .
   refine EZ ?_;repeat (go_big_quiet_step ((first
    | (go_at_call 179;exact EN (Ok _ _ U U))
    | (go_at_call 178;exact Hh (Sy _ _ _ U U U)))))
   refine Cj ?_;rintro w2 ⟨⟨w3,hb3⟩,hw''⟩;subst hw'';go_wp2;go_ret;refine⟨D8 ?_,hB.trans K6⟩;simp[GT,h1,h2]
 rcases h3:decide (-1000000000000000<=n) with _|_
 .
   refine EZ ?_;repeat (go_big_quiet_step ((first
    | (go_at_call 179;exact EN (Ok _ _ U U))
    | (go_at_call 178;exact Hh (Sy _ _ _ U U U)))))
   refine Cj ?_;rintro w2 ⟨⟨w3,hb3⟩,hw''⟩;subst hw'';go_wp2;go_ret;refine⟨D8 ?_,hB.trans K6⟩;simp[GT,h1,h2,h3]
 rcases h4:decide (n<=1000000000000000) with _|_
 .
   refine EZ ?_;repeat (go_big_quiet_step ((first
    | (go_at_call 179;exact EN (Ok _ _ U U))
    | (go_at_call 178;exact Hh (Sy _ _ _ U U U)))))
   refine Cj ?_;rintro w2 ⟨⟨w3,hb3⟩,hw''⟩;subst hw'';go_wp2;go_ret;refine⟨D8 ?_,hB.trans K6⟩;simp[GT,h1,h2,h3,h4]
 have A:=Ic h1;have B:=Ic h2;have C:=Ic h3;have D:=Ic h4;have E:IntKind.u64.wrap d=d:=by rw[VX];omega
 refine EZ ?_;repeat (go_big_quiet_step ((first
  | (go_at_call 179;exact EN (Ok _ _ U U))
  | (go_at_call 178;exact Hh (Sy _ _ _ U U U)))))
 exact s5
section
variable{P:Program}{fn:Func}{p u:Tmp}{ty:TypeId}
def Ja(h:fn.results=#[.cell p ty])(tmps:Array AB)(w:AA)(g:Nat)(t:TypeId)(cs:Array AB)(fr:Nat × Nat)(d:TypeDesc)
 (hp:tmps.getD p undef=.pointer g)(B:w.heap[g]? = some (.cells cs t fr))
 (E:P.underlying ty=some d)(A:(match d with | .struct _ | .array _ _=>true|_=>false)=true)(C:(P.info? ty).map (·.size)=some cs.size):
 (results fn tmps).run P w=.ok (.agg cs) w:=by
 have D:tmps[p]?.getD undef=.pointer g:=P6;simp[results,h,D,asAddr,run_loadVar_row w g t ty cs fr d B E A C]
def V3(h:fn.results=#[.cell p ty,.tmp u])(tmps:Array AB)(w:AA)(g:Nat)(t:TypeId)(cs:Array AB)(fr:Nat × Nat)(d:TypeDesc)(v1:AB)
 (hp:tmps.getD p undef=.pointer g)(h1:tmps.getD u undef=v1)(hg:w.heap[g]? = some (.cells cs t fr))
 (hu:P.underlying ty=some d)(hd:(match d with | .struct _ | .array _ _=>true|_=>false)=true)(hi:(P.info? ty).map (·.size)=some cs.size):
 (results fn tmps).run P w=.ok (.tuple #[.agg cs,v1]) w:=by
 exact sJ
def MH{x:Tmp}(h:fn.results=#[.cell p ty,.tmp u,.tmp x])(tmps:Array AB)(w:AA)(g:Nat)(t:TypeId)(cs:Array AB)(fr:Nat × Nat)(d:TypeDesc)(v1 v2:AB)
 (hp:tmps.getD p undef=.pointer g)(h1:tmps.getD u undef=v1)(h2:tmps.getD x undef=v2)(hg:w.heap[g]? = some (.cells cs t fr))
 (hu:P.underlying ty=some d)(hd:(match d with | .struct _ | .array _ _=>true|_=>false)=true)(hi:(P.info? ty).map (·.size)=some cs.size):
 (results fn tmps).run P w=.ok (.tuple #[.agg cs,v1,v2]) w:=by
 exact fB
def Vl:(prog.info? 119).map (·.size)=some 2:=AF
def zt:(prog.info? 374).map (·.size)=some 2:=AF
def Fb{w:AA}{g:Nat}{t:TypeId}{x y:AB}(A:AG w g t #[x,y]):w.cell? ⟨g,0,none⟩=some x/\w.cell? ⟨g,1,none⟩=some y/\w.frozen? ⟨g,0,none⟩=false/\w.frozen? ⟨g,1,none⟩=false:=
 ⟨A.cell 0,A.cell 1,A.frozen 0,A.frozen 1⟩
def ABd{k A:IntKind}{a b c d:Int}(B:a=b)(C:c=d):Ending.returned (.tuple #[.int k a,.int A c])=.returned (.tuple #[.int k b,.int A d]):=by rw[B,C]
end
def AIa(A d:Nat)(w:AA)(D:1<=d)(E:d<18446744073709551616)(F:A<18446744073709551616):
 AI 366 #[.int .u64 0,.int .u64 (A:Int),.int .u64 (d:Int)] w (Bz (.tuple #[.int .u64 ((A / d:Nat):Int),.int .u64 ((A%d:Nat):Int)]) w):=by
 have B:((d:Int)==0)=false:=Aw.2 U;have C:decide ((d:Int)<=0)=false:=AM;go_in;go_wp2;go_quiet (fail)
 go_wp2;go_ret2;have H:=Nat.div_le_self A d;exact⟨ABd (by rw[show(A:Int) / (d:Int)=((A / d:Nat):Int) from rfl];generalize A / d=G at *;rw[VX];omega) AZ,Do DL _⟩
def AIZ(x:Int)(A d:Nat)(w:AA)(E:x=0)(B:1<=d)(C:d<18446744073709551616)(D:A<18446744073709551616):
 AI 366 #[.int .u64 x,.int .u64 (A:Int),.int .u64 (d:Int)] w (Bz (.tuple #[.int .u64 ((A / d:Nat):Int),.int .u64 ((A%d:Nat):Int)]) w):=by
 subst E;exact AIa A d w B C D
def lX(A d:Nat)(w:AA)(F:1<=d)(G:d<18446744073709551616)(H:A<18446744073709551616):
 AI 339 #[.agg #[.int .u64 0,.int .u64 (A:Int)],.int .u64 (d:Int)] w (Bz (.tuple #[.agg #[.int .u64 0,.int .u64 ((A / d:Nat):Int)],.int .u64 ((A%d:Nat):Int)]) w):=by
 have T:((d:Int)==0)=false:=Aw.2 U;go_in;go_wp2;refine EZ ?_;repeat (go_big_quiet_step ((go_at_call 366;exact Hh (AIZ _ A d _ AH F G H))))
 refine Cj ?_;rintro E ⟨⟨W,B⟩,K⟩;subst K;have D:Below w w ((w.alloc (.cells #[.int .u64 0,.int .u64 (A:Int)] 374)).alloc (.cells #[.int .u64 0,.int .u64 0] 374)):=((AN _ _).alloc AK _).alloc AH _;have I:=D.trans (B.mono D.size);have J:AG E w 374 #[.int .u64 0,.int .u64 (A:Int)]:=((AG.new w _ _).alloc _).below B AM;have C:AG E (w.heap.size+1) 374 #[.int .u64 0,.int .u64 0]:=(AG.newAt _ _ _ _ AH).below B AH;obtain⟨L,M,P,Q⟩:=Fb J;obtain⟨N,O,R,S⟩:=Fb C;have V:=C.lt;go_wp2;exact BE (v:=.tuple #[.agg #[.int .u64 0,.int .u64 ((A / d:Nat):Int)],.int .u64 ((A%d:Nat):Int)]) (V3 results339 _ _ (w.heap.size+1) 374 _ (0,0) _ _ rfl AZ ((C.put 0 _).put 1 _) underlying374 rfl zt) rfl ⟨rfl,(I.setCell AH _).setCell AH _⟩
def AHh(d n:Nat):Nat.gcd d (n%d)=Nat.gcd d n:=by
 rw[Nat.gcd_rec d n,Nat.gcd_comm]
def fk(n d:Nat)(w:AA)(e:Ending)(A:AA):Prop:=e=.returned (.tuple #[.agg #[.int .i64 (B8 n d).n,.int .i64 (B8 n d).d],()])/\Below w w A
def AF0(n d:Nat)(w:AA)(Z:n<=1000000000000000)(W:1<=d)(X:d<=1000000000):
 AI 292 #[false,.agg #[.int .u64 0,.int .u64 (n:Int)],.int .u64 (d:Int)] w (fk n d w):=by
 have T:=O (AHh d n);have Y:1<=Nat.gcd d n:=cJ _ U;have l:Nat.gcd d n<=d:=Nat.gcd_le_left _ U;have b:n / Nat.gcd d n<=n:=Nat.div_le_self _ _;have c:d / Nat.gcd d n<=d:=Nat.div_le_self _ _;have m:n%d<d:=Mi _ U;have A2:Hid (B8 n d=⟨(n / Nat.gcd d n:Nat),(d / Nat.gcd d n:Nat)⟩):=rfl;have F:Hid ((d:Int) / ((Nat.gcd d n:Nat):Int)=((d / Nat.gcd d n:Nat):Int)):=rfl;go_in;go_wp2_with fail;go_call lX n d _ W U U as J w1 ⟨rfl,hb1⟩;have M:Below w w ((w.alloc (.cells #[.int .u64 0,.int .u64 (n:Int)] 374)).alloc (.cells #[(),()] 119)):=((AN _ _).alloc AK _).alloc AH _;have B:=M.trans (hb1.mono M.size);have P:AG w1 w 374 #[.int .u64 0,.int .u64 (n:Int)]:=((AG.new w _ _).alloc _).below hb1 AM;have Q:AG w1 (w.heap.size+1) 119 #[(),()]:=(AG.newAt _ _ _ _ AH).below hb1 AH;obtain⟨H,I,K,L⟩:=Fb P;have u:=Q.lt;go_wp2_with fail;refine(kD d (n%d) _ U U).mono ?_;rw[T.o];rintro J e ⟨rfl,D⟩;have N:Below w w e:=(B.alloc B.size _).trans (D.mono (Ap B.size AH));have R:=(P.alloc _).below D AM;have S:=(Q.alloc _).below D AM;obtain⟨H,I,K,L⟩:=Fb R;have v:=S.lt;generalize Nat.gcd d n=A at *;go_wp2_with fail;go_call lX n A _ Y U U as J w3 ⟨rfl,hb3⟩;have C:=N.trans (hb3.mono N.size);have a:=R.below hb3 U;have E:=S.below hb3 U;obtain⟨H,I,K,L⟩:=Fb a;have x:=E.lt;have k:((A:Int)==0)=false:=Aw.2 U;have q:(0:Int)<=(d:Int) / (A:Int):=by rw[F.o];exact Kp _
 have r:(d:Int) / (A:Int)<=1000000000:=by rw[F.o];exact Int.ofNat_le.2 (Ap c X)
 have s:((n / A:Nat):Int)<=1000000000000000:=Int.ofNat_le.2 (Ap b Z);have t:(0:Int)<=((n / A:Nat):Int):=Kp _;generalize n / A=G at *;obtain⟨f,g,i,j⟩:=Fb E;go_wp2;have V:fk n d w (.returned (.tuple #[.agg #[G,.int .i64 ((d:Int) / (A:Int))],()])) w3:=⟨wu,C⟩;refine BE (v:=.tuple #[.agg #[G,.int .i64 ((d:Int) / (A:Int))],()]) (V3 results292 _ _ (w.heap.size+1) 119 _ (0,0) _ _ rfl AZ ?_ underlying119 rfl Vl) rfl ⟨V.1,?_⟩
 .exact((((E.far AH _).far AH _).put 0 _).put 1 _).alloc _
 .have o:=C.size;exact((((C.setCell AH _).setCell AH _).setCell AH _).setCell AH _).alloc AM _
def AAl(n:Nat)(w:AA)(A:n<=9223372036854775807):
 AI 179 #[n] w (BX (.int .u64 (n:Int)) w):=by
 have:=Ok (n:Int) w U U;exact E_
def AFx(n d:Nat)(w:AA)(H:n<=1000000000000000)(E:1<=d)(G:d<=1000000000):
 AI 212 #[n,d] w (fk n d w):=by
 have M:((d:Int)==0)=false:=Aw.2 U;have N:decide ((d:Int)<0)=false:=AH;have O:decide ((n:Int)<0)=false:=AH;go_in;go_wp2_with (first
  | (go_at_call 179;refine(AAl _ _ U).mono ?_;rintro D P ⟨rfl,rfl⟩)
  | (go_at_call 292;refine(AF0 n d _ H E G).mono ?_;rintro D Q ⟨rfl,B⟩;have C:=(AG.new w 119 #[(),()]).below B AH;obtain⟨I,J,K,L⟩:=Fb C))
 have A:Below w w (w.alloc (.cells #[(),()] 119)):=(AN _ _).alloc AK _;have F:=A.trans (B.mono A.size);exact BE (v:=.tuple #[.agg #[.int .i64 (B8 n d).n,.int .i64 (B8 n d).d],()]) (V3 results212 _ _ w 119 _ (0,0) _ _ rfl AZ ((C.put 0 _).put 1 _) underlying119 rfl Vl) rfl ⟨rfl,(F.setCell AH _).setCell AH _⟩
def dR(c:UInt8)(A:CD c=true):48<=c.toNat/\c.toNat<=57:=by
 unfold CD at A;simpa using A
def yZ(l:AE):∀n:Nat,l.all CD=true->l.foldl (λn c=>n*10+(c.toNat-48)) n<(n+1)*10 ^ l.length:=by
 induction l with
 | nil=>intro n _;simp
 | cons c C B=>
  intro n h;rw[Ju,At] at h;have A:=B (n*10+(c.toNat-48)) h.2;have D:=dR c h.1;rw[Fh,CB];refine Co A ?_;rw[JB,Nq (10 ^ C.length) 10,<-Jy];exact Qv _ U
def NB(l:AE)(A:l.all CD=true):Cc l<10 ^ l.length:=by
 have:=yZ l 0 A;simpa[Cc] using this
def aI(l:AE)(k:Nat)(A:k<l.length):Cc (l.take (k+1))=Cc (l.take k)*10+(l[k].toNat-48):=by
 rw[Mj A,aJ]
def jV{l:AE}(A:l.all CD=true)(k:Nat):(l.take k).all CD=true:=by
 rw[DS] at A ⊢;exact λC B=>A C (Q7 B)
def AKu(a b:AE)(k:Nat)(A:k<(ByteArray.mk a.toArray++ByteArray.mk b.toArray).size)(B:k<(a++b).length):((ByteArray.mk a.toArray++ByteArray.mk b.toArray)[k]'A)=(a++b)[k]:=by
 simp only[GV];rfl
def ANa(v:EP)(A:Int)(w:AA)(e:Ending)(B:AA):Prop:=e=.returned (.tuple #[.agg #[v.n,v.d],A,true])/\Below w w B
def RR(s:ByteArray)(v:EP)(Z:Int)(w:AA)(z:s.size<=1000000000000000000)(H:Ff s.data.toList=some (v,Z)):
 AI 154 #[.string s] w (ANa v Z w):=by
 unfold Ff at H;cases J:G3 s.data.toList with
 | none=>rw[J] at H;cases H
 | some V=>
  obtain⟨A,C,Y⟩:=V;rw[J] at H;simp only[CW,Hg] at H;obtain⟨i,rfl⟩:=H;have l:=O i;have k:=O J;have I:=O (bS J);clear i J;have AC:=I.o.a1;have AD:=I.o.a9;have AE:C.length<=4:=by
   have x:=I.o.hb;cases ha:(DO s.data.toList).1.any (λc=>c==46) with
   | true=>exact(I.o.dot ha).2
   | false=>
    rcases Mf ((DO s.data.toList).1.dropWhile B4).length with K|K
    .rw[x,PD.1 K];simp
    .rw[eB _ K] at ha;cases ha
  go_in;go_wp2_with (go_at_call 211;refine(lM s A C Y _ z k.o).mono ?_;rintro u AV ⟨rfl,rfl⟩)
  go_loop [9,10,11] (λV AB W=>∃(B E D:Nat),V=.int .i64 (E:Int)/\AB=.int .i64 (D:Int)/\W=.int .i64 (B:Int)/\B<=A.length+C.length/\E<100000000000000/\1<=D/\D<=10000/\Hid (E=Cc ((A++C).take B)/\D=10 ^ (B-A.length))) (λ_ _ W=>A.length+C.length-(intOf W).toNat)
  case atStart=>exact⟨0,0,1,rfl,rfl,rfl,Az _,by omega,by omega,by omega,by simp[Cc],AH⟩
  case round=>
   obtain⟨B,E,D,rfl,rfl,rfl,AR,AP,y,AO,f⟩:=hrel;by_cases hlt:B<A.length+C.length
   .have t:decide ((B:Int)<(A.length:Int)+(C.length:Int))=true:=AM;have R:B<(A++C).length:=JP;have S:B<(ByteArray.mk A.toArray++ByteArray.mk C.toArray).size:=by rw[GV];exact R
    have P:=I.o.dU;have M:=AKu A C B S R;obtain⟨X,n⟩:=dR (A++C)[B] (DS.1 P _ (Gq _));rw[<-M] at X n;have T:=aI (A++C) B R;rw[<-M] at T;have j:=NB _ (jV P (B+1));have g:10 ^ ((A++C).take (B+1)).length<=10 ^ 13:=I_ (by omega) (by rw[HE,Cp];omega);have AQ:Cc ((A++C).take (B+1))<10000000000000:=Co j g;have gb:=O T;clear P M T j g;obtain⟨G,F⟩:=f;by_cases AS:A.length<=B
    .have o:decide ((A.length:Int)<=(B:Int))=true:=AM;have r:decide (A.length<=B)=true:=AM;have AT:D<=10 ^ 3:=by rw[F];exact I_ (by omega) (by omega)
     have L:=O (show D*10=10 ^ (B+1-A.length) by rw[F,show B+1-A.length=B-A.length+1 by omega,JB]);have An:=O G;clear G F;go_wp2;go_round
     case rel=>exact⟨B+1,E*10+(((ByteArray.mk A.toArray++ByteArray.mk C.toArray)[B]'S).toNat-48),D*10,by first|rfl|go_num|(congr 1;omega),by first|rfl|go_num|(congr 1;omega),by first|rfl|go_num|(congr 1;omega),by omega,wl,by omega,by omega,by show _=_/\_=_;exact⟨by rw[gb.o,<-An.o],L.o⟩⟩
     case measure=>exact A5
    .have o:decide ((A.length:Int)<=(B:Int))=false:=AM;have r:decide (A.length<=B)=false:=AM;have L:=O (show D=10 ^ (B+1-A.length) by rw[F,show B+1-A.length=B-A.length by omega]);have An:=O G;clear G F;go_wp2;go_round
     case rel=>exact⟨B+1,E*10+(((ByteArray.mk A.toArray++ByteArray.mk C.toArray)[B]'S).toNat-48),D,by first|rfl|go_num|(congr 1;omega),rfl,by first|rfl|go_num|(congr 1;omega),by omega,wl,by omega,by omega,by show _=_/\_=_;exact⟨by rw[gb.o,<-An.o],L.o⟩⟩
     case measure=>exact A5
   .have t:decide ((B:Int)<(A.length:Int)+(C.length:Int))=false:=AM;have Q:B=(A++C).length:=AM;obtain⟨G,F⟩:=f;have a:E=Cc (A++C):=by rw[G,Q,F6]
    have b:D=10 ^ C.length:=by rw[F,Q,Cp,show A.length+C.length-A.length=C.length by omega]
    have m:=O (show B8 E D=v by rw[a,b];exact l.o);clear G F a b Q;go_wp2_with fail;refine(AFx E D _ (by omega) y (by omega)).mono ?_;rintro u AW ⟨rfl,N⟩;rw[m.o];have d:Below w w (w.alloc (.cells #[(),()] 119)):=(AN _ _).alloc AK _;have e:=d.trans (N.mono d.size);have U:=(AG.new w 119 #[(),()]).below N AH;obtain⟨AF,X,AJ,AL⟩:=Fb U;have AU:=U.lt;clear N;go_wp2;refine BE (v:=.tuple #[.agg #[v.n,v.d],Y,true]) (MH results154 _ _ w 119 _ (0,0) _ _ _ rfl AZ AZ ?_ underlying119 rfl Vl) rfl ⟨rfl,?_⟩
    .exact((U.put 0 _).put 1 _).alloc _
    .have K:=e.size;exact((e.setCell AH _).setCell AH _).alloc AM _
def ALN(n:Nat)(w:AA)(e:Ending)(A:AA):Prop:=e=.returned (.tuple #[n,true])/\w=A
def aD(s:ByteArray)(n:Nat)(w:AA)(i:s.size<=9)(h:MD s.data.toList=some n):
 AI 293 #[.string s] w (ALN n w):=by
 unfold MD at h;split at h
 .rename_i M;rw[At] at M;obtain⟨N,G⟩:=M;simp only[CW] at h;have F:s.data.toList.length=s.size:=AH;have d:0<s.size:=by
   rcases Mf s.size with C|C
   .rw[PD.1 (F.trans C)] at G;cases G
   .exact C
  have R:=O h;have D:=O F;have J:=O N;have C:decide ((0:Int)<(s.size:Int))=true:=AM;clear h F G N;go_in;go_wp2;go_loop [4,5] (λa I=>∃A B:Nat,A<=s.size/\a=.int .i64 (B:Int)/\I=.int .i64 (A:Int)/\B<10000000000/\Hid (B=Cc (s.data.toList.take A))) (λ_ I=>s.size-(intOf I).toNat)
  case atStart=>exact⟨0,0,Az _,rfl,rfl,U,by show _=_;simp[Cc]⟩
  case round=>
   obtain⟨A,B,g,rfl,rfl,e,E⟩:=hrel;by_cases W:A<s.size
   .have V:A<s.data.toList.length:=by rw[D.o];exact W
    have L:s[A]=s.data.toList[A]:=rfl;obtain⟨S,T⟩:=dR s.data.toList[A] (DS.1 J.o _ (Gq _));have H:=aI s.data.toList A V;rw[<-L] at S T H;have Y:=NB _ (jV J.o (A+1));have X:10 ^ (s.data.toList.take (A+1)).length<=10 ^ 9:=I_ U (by rw[HE,D.o];omega);have f:Cc (s.data.toList.take (A+1))<1000000000:=by
     have:(10:Nat) ^ 9=1000000000:=AD;omega
    have K:=O H;have b:decide ((s[A].toNat:Int)<48)=false:=AM;have c:decide ((57:Int)<(s[A].toNat:Int))=false:=AM;clear L H Y X;go_wp2;go_round
    case rel=>exact⟨A+1,B*10+(s[A].toNat-48),U,ANj,A7,by have Z:=K.o;rw[<-E.o] at Z;omega,by show _=_;rw[K.o,<-E.o]⟩
    case measure=>exact A5
   .have P:A=s.size:=U;have Q:=O (show B=n by rw[E.o,P,<-D.o,F6];exact R.o);clear P;go_wp2;go_ret2;refine⟨?_,rfl⟩;rw[<-Q.o];rfl
 .cases h
def T6(s:ByteArray)(a b:Nat):(s.extract a b).data.toList=(s.data.toList.drop a).take (b-a):=by
 simp[Wb]
def lS(s:ByteArray)(n:Nat)(w:AA)(h:KU s.data.toList=some n):
 AI 213 #[.string s] w (xY n w):=by
 unfold KU at h;split at h
 .cases h
 .rename_i H;have b:s.data.toList.length=s.size:=AH;have f:s.size<=10:=U;have g:10<=s.size:=U;have I:s.data.toList[4]? = some 45:=by
   rcases Decidable.em (s.data.toList[4]? = some 45) with A | A
   .exact A
   .exact absurd (.inr (.inl A)) H
  have J:s.data.toList[7]? = some 45:=by
   rcases Decidable.em (s.data.toList[7]? = some 45) with A | A
   .exact A
   .exact absurd (.inr (.inr A)) H
  have N:((s[4]' U).toNat:Int)=45:=by
   rw[BL AM] at I;have:s[4]' U=45:=Ld I;rw[this];rfl
  have P:((s[7]' U).toNat:Int)=45:=by
   rw[BL AM] at J;have:s[7]' U=45:=Ld J;rw[this];rfl
  have Y:(((s[4]' U).toNat:Int) !=45)=false:=by simp[N]
  have Z:(((s[7]' U).toNat:Int) !=45)=false:=by simp[P]
  split at h
  .rename_i E D C X V S;have M:=O (show MD (s.extract 0 4).data.toList=some E by rw[dH];exact X);have L:=O (show MD (s.extract 5 7).data.toList=some D by rw[T6];exact V);have F:=O (show MD (s.extract 8 10).data.toList=some C by rw[T6,HB AM];exact S);have T:C<=1000:=by
    have B:=F.o;unfold MD at B;split at B
    .rename_i G;rw[At] at G;have Q:=NB _ G.1;simp only[CW] at B;rw[B] at Q;have R:(s.extract 8 10).data.toList.length<=2:=by rw[T6];simp;omega
     have a:10 ^ (s.extract 8 10).data.toList.length<=10 ^ 2:=I_ U R;omega
    .cases B
   have K:=O h;have c:decide ((s.size:Int)=10)=true:=AM;have d:((s.size:Int) !=10)=false:=AM;go_in;have W:Hid (s.extract 8 s.size=s.extract 8 10):=by show _=_;rw[show s.size=10 by omega]
   go_wp2_with fail;go_call aD _ E _ AM M.o as e w' ⟨rfl,rfl⟩;go_wp2_with fail;go_call aD _ D _ AM L.o as e w' ⟨rfl,rfl⟩;go_wp2_with fail;rw[W.o];go_call aD _ C _ AM F.o as e w' ⟨rfl,rfl⟩;go_wp2_with fail;go_call AIp E D C n _ T K.o as e w' ⟨rfl,rfl⟩;go_wp2;go_ret2;exact N1
  .cases h
def Sm:(prog.info? 259).map (·.size)=some 3:=AF
def vB(kind:Int)(t:AE)(a n:Nat)(w:AA)(e:Ending)(A:AA):Prop:=
 e=.returned (.tuple #[.agg #[kind,.string ⟨t.toArray⟩,a],.int .i64 ((a+n:Nat):Int),()])/\Below w w A
def jk(l:AE)(a:Nat):(l.drop a).drop (CU false (l.drop a))=l.drop (a+CU false (l.drop a)):=by rw[I5]
def AFP(s:ByteArray)(a b:Nat)(w:AA)(G:s.size<=1000000000000000000)(ha:a<=s.size)(B:b=a+CU false (s.data.toList.drop a))(h:s.data.toList.drop b=[]):
 AI 208 #[.string s,a] w (vB 0 [] b 0 w):=by
 have F:=zm false (s.data.toList.drop a);have E:(s.data.toList.drop a).length=s.size-a:=AH;have D:b=s.size:=by
  have:=List.drop_eq_nil_iff.1 h;have J:s.data.toList.length=s.size:=AH;omega
 have A:=jl s a;rw[<-B] at A;subst D;have H:decide ((s.size:Int)<(a:Int))=false:=AM;have C:=O A;clear A h B F E;go_in;go_wp2_with (go_at_call 287;refine(C.o _ G ha).mono ?_;rintro I K ⟨rfl,rfl⟩)
 refine BE (v:=.tuple #[.agg #[(),.string .empty,s.size],s.size,()]) (MH results208 _ _ w 259 _ (0,0) _ _ _ rfl (by rfl) (by rfl) ?_ underlying259 rfl Sm) rfl ⟨rfl,?_⟩
 .exact UK
 .exact UM
def AFO(s:ByteArray)(a b n:Nat)(c:UInt8)(r:AE)(kind:Int)(w:AA)(E:s.size<=1000000000000000000)(ha:a<=s.size)(Z:b=a+CU false (s.data.toList.drop a))(h:s.data.toList.drop b=c::r)(A:HS (c::r)=some (kind,n)):
 AI 208 #[.string s,a] w (vB kind ((s.data.toList.drop b).take n) b n w):=by
 have x:s.data.toList.length=s.size:=AH;have d:b<s.size:=by
  have R:=congrArg List.length h;simp only[EM,CB] at R;omega
 have S:=drop_cons s b d;rw[h] at S;obtain⟨rfl,rfl⟩:=List.cons.inj S;have f:=aN _ _ _ A;have AL:=Sd _ _ _ A;have AJ:n<=s.size-b:=by
  have R:=congrArg List.length h;simp only[EM,CB] at R f;omega
 have W:=jl s a;rw[<-Z] at W;have T:(s.extract b (b+n)).data.toList=(s.data.toList.drop b).take n:=by rw[T6,Nat.add_sub_cancel_left]
 have Y:s.extract b (b+n)=⟨((s.data.toList.drop b).take n).toArray⟩:=dv T;have M:=O W;have N:=O Y;have q:=O T;have F:=O h;have F8:Hid (((b+n:Nat):Int)=(b:Int)+(n:Int)):=gX;have z:decide ((s.size:Int)<(a:Int))=false:=AM;have AC:((b:Int)==(s.size:Int))=false:=AM;have AD:(b==s.size)=false:=AM;have AO:=s[b].toNat_lt;clear W Y T Z S x f;go_in;simp only[HS] at A;split at A
 .rename_i K;split at A
  .rename_i v;simp only[CW,Hg] at A;obtain⟨rfl,D⟩:=A;rw[D] at v;have u:decide ((n:Int)<=12)=true:=AM;have G:=O K;have H:=O (show runN false (s.data.toList.drop b)=n by rw[F.o];exact D);clear K D h;go_wp2_with (first
    | (go_at_call 287;refine(M.o _ E ha).mono ?_;rintro B C ⟨rfl,rfl⟩)
    | (go_at_call 288;refine(Ka _ _ G.o _).mono ?_;rintro B C ⟨rfl,rfl⟩)
    | (go_at_call 289;refine(j5 s b false _ E U).mono ?_;rintro B C ⟨rfl,rfl⟩;rw[H.o]))
   rw[N.o];refine BE (v:=.tuple #[.agg #[.int .i64 1,.string ⟨((s.data.toList.drop b).take n).toArray⟩,b],.int .i64 ((b:Int)+(n:Int)),()]) (MH results208 _ _ w 259 _ (0,0) _ _ _ rfl AZ AZ ?_ underlying259 rfl Sm) rfl ⟨?_,?_⟩
   .exact UK
   .exact Xu
   .exact UM
  .cases A
 .rename_i K;have G:=O (Tl.2 K);clear K;split at A
  .rename_i J;split at A
   .rename_i V;simp only[CW,Hg] at A;obtain⟨rfl,D⟩:=A;rw[D,<-F.o] at V;have L:=O J;have H:=O (show runN true (s.data.toList.drop b)=n by rw[F.o];exact D);obtain⟨⟨i,j,k⟩,g⟩:=Wa.1 V;have o:=O (show G3 (s.extract b (b+n)).data.toList=some (i,j,k) by rw[q.o];exact g);clear J D h V g;go_wp2_with (first
     | (go_at_call 287;refine(M.o _ E ha).mono ?_;rintro B C ⟨rfl,rfl⟩)
     | (go_at_call 288;refine(Ka _ _ G.o _).mono ?_;rintro B C ⟨rfl,rfl⟩)
     | (go_at_call 290;refine(Kn _ _ L.o _).mono ?_;rintro B C ⟨rfl,rfl⟩)
     | (go_at_call 289;refine(j5 s b true _ E U).mono ?_;rintro B C ⟨rfl,rfl⟩;rw[H.o])
     | (go_at_call 211;refine(lM _ i j k _ AM o.o).mono ?_;rintro B C ⟨rfl,rfl⟩))
    rw[N.o];refine BE (v:=.tuple #[.agg #[.int .i64 2,.string ⟨((s.data.toList.drop b).take n).toArray⟩,b],.int .i64 ((b:Int)+(n:Int)),()]) (MH results208 _ _ w 259 _ (0,0) _ _ _ rfl AZ AZ ?_ underlying259 rfl Sm) rfl ⟨?_,?_⟩
    .exact UK
    .exact Xu
    .exact UM
   .cases A
  .rename_i J;have L:=O (Tl.2 J);clear J;split at A
   .rename_i I;have Q:s[b].toNat=64:=by
     have:=Fa s[b] 64 U;rw[show UInt8.ofNat 64=(64:UInt8) from rfl,I] at this;simpa using this.symm
    have t:((s[b].toNat:Int)==64)=true:=AM;split at A
    .rename_i P;rw[At,CJ] at P;simp only[CW,Hg] at A;obtain⟨rfl,D⟩:=A;subst D;obtain⟨y,l⟩:=P;obtain⟨X,e⟩:=Wa.1 l;have m:=O (show KU (s.extract (b+1) (b+11)).data.toList=some X by
      rw[T6,show b+11-(b+1)=10 by omega,<-I5,F.o];exact e)
     have AB:decide ((11:Int)<=(s.size:Int)-(b:Int))=true:=AM;clear I Q y l e h;go_wp2_with (first
      | (go_at_call 287;refine(M.o _ E ha).mono ?_;rintro B C ⟨rfl,rfl⟩)
      | (go_at_call 288;refine(Ka _ _ G.o _).mono ?_;rintro B C ⟨rfl,rfl⟩)
      | (go_at_call 290;refine(Kn _ _ L.o _).mono ?_;rintro B C ⟨rfl,rfl⟩)
      | (go_at_call 213;refine(lS _ X _ m.o).mono ?_;rintro B C ⟨rfl,rfl⟩))
     rw[N.o];refine BE (v:=.tuple #[.agg #[.int .i64 3,.string ⟨((s.data.toList.drop b).take 11).toArray⟩,b],.int .i64 ((b:Int)+(11:Int)),()]) (MH results208 _ _ w 259 _ (0,0) _ _ _ rfl AZ AZ ?_ underlying259 rfl Sm) rfl ⟨?_,?_⟩
     .exact UK
     .exact Xu
     .exact UM
    .cases A
   .rename_i I;have Q:s[b].toNat≠64:=by
     intro B;have:=Fa s[b] 64 U;rw[show UInt8.ofNat 64=(64:UInt8) from rfl] at this;exact I (by rw[this];simpa using B)
    have t:((s[b].toNat:Int)==64)=false:=AM;split at A
    .rename_i P;simp only[CW,Hg] at A;obtain⟨rfl,D⟩:=A;have H:=O (show II (s.data.toList.drop b)=n by rw[F.o];exact D);have u:decide ((0:Int)<(n:Int))=true:=AM;have AF:decide (0<n)=true:=AM;clear I Q D P h;go_wp2_with (first
      | (go_at_call 287;refine(M.o _ E ha).mono ?_;rintro B C ⟨rfl,rfl⟩)
      | (go_at_call 288;refine(Ka _ _ G.o _).mono ?_;rintro B C ⟨rfl,rfl⟩)
      | (go_at_call 290;refine(Kn _ _ L.o _).mono ?_;rintro B C ⟨rfl,rfl⟩)
      | (go_at_call 291;refine(zy s b _ E d).mono ?_;rintro B C ⟨rfl,rfl⟩;rw[H.o]))
     rw[N.o];refine BE (v:=.tuple #[.agg #[.int .i64 4,.string ⟨((s.data.toList.drop b).take n).toArray⟩,b],.int .i64 ((b:Int)+(n:Int)),()]) (MH results208 _ _ w 259 _ (0,0) _ _ _ rfl AZ AZ ?_ underlying259 rfl Sm) rfl ⟨?_,?_⟩
     .exact UK
     .exact Xu
     .exact UM
    .cases A
def ET{P:Program}{ops:Array Oper}{rest:List Oper}{o:Oper}{a:Act}{Q:Exit->Act->AA->Prop}(I:o.guard=none)(s x:Operand)(ts A:TypeId)
 (R:o.op=.call { callee:=.builtin .append,args:=#[s,x],argTypes:=#[ts,ts] })(V:P.underlying ts=some (.slice A))(z:AB)(k G:Nat)(M:0<k)(N:G<=1000)
 (L:(P.info? A).map (λi=>(i.zero,i.size,i.bytes))=some (some z,k,G))(d:z.cells.size=k)
 (E:Nat)(v:AB)(n:Nat)(l:List AB)(wr:AA)(D:List AB)(Z:D.length=k)(Y:∀u∈D,u.oneCell'=true)(T:a.eval s=v)(hown:wr.ownsRow E A k v n l)(g:Nat)(X:a.eval x=.slice g 1 1)(J:g=wr.heap.size)
 (t:n<=100000000)(q:E<=wr.heap.size)
 (h:∀v' B,B.ownsRow E A k v' (n+1) (l++D)->Below E wr B->wr.grownBy B v.ownBlock->wpList P ops Q rest (a.put o.dst v') B) :
 wpList P ops Q (o::rest) a (wr.alloc (.cells D.toArray A)):=by
 subst J;obtain⟨f,K,b,e,c⟩:=info_parts L;refine wpList_append_own_at _ I s x ts R E A f z k G V K b e c d M v n l T (IQ hown C8 gH) ⟨wr,0,none⟩ 1 1 D X (by rw[Z];omega)
  ?_ Y Hr (by have:(n+1)*G<=(n+1)*1000:=Tm _ N;omega) AM ?_
 .intro j u W;have H:(⟨wr,0,none⟩:Addr).add j=⟨wr,j,none⟩:=xC;rw[H,(AG.new wr A D.toArray).cell j];simpa using W
 .intro v' B S F _ _;have C:wr.grownBy B v.ownBlock:=⟨F.os,F.tape,F.output,Ap AH F.size,λj hj O=>(F.block j AM O).trans (GI wr _ j hj)⟩;refine h v' B S ?_ C;refine⟨C.os,C.tape,C.output,C.size,λj hj=>C.block j U ?_⟩;rcases hown.2 with ⟨rfl,_⟩|⟨g,m,cur,rfl,r,_⟩
  .exact UJ
  .simp[Value.ownBlock];omega
abbrev A9:=List (Int × AE × Int)
def It(l:A9):List AB:=l.flatMap λA=>[.int .i64 A.1,AR A.2.1,.int .i64 A.2.2]
def E6(l:A9):List (Int × AE):=l.map λA=>(A.1,A.2.1)
def yx(l:A9)(x:Int × AE × Int):It (l++[x])=It l++[.int .i64 x.1,AR x.2.1,.int .i64 x.2.2]:=by simp[It]
def ACK(l:A9)(x:Int × AE × Int):E6 (l++[x])=E6 l++[(x.1,x.2.1)]:=by simp[E6]
def ALf:(prog.info? 259).map (λi=>(i.zero,i.size,i.bytes))=some (some (.agg #[(),.string .empty,()]),3,32):=AF
def ANq(D:List (Int × AE))(w:AA)(e:Ending)(C:AA):Prop:=
 ∃B A,e=.returned (.tuple #[B,(),()])/\C.ownsRow w 259 3 B A.length (It A)/\E6 A=D/\Below w w C
def AFE{x:Int × AE}(A:Jg x):1<=x.1/\x.1<=4:=by
 rcases A with ⟨A,_⟩|⟨A,_⟩|⟨A,_⟩|⟨A,_⟩<;>omega
def AK4(s:ByteArray)(f:Nat)(K:List (Int × AE))(w:AA)(AP:s.size<=8000)(h:MI f s.data.toList=some K):
 AI 150 #[.string s] w (ANq K w):=by
 have y:decide ((8000:Int)<(s.size:Int))=false:=AM;have b:=O h;clear h;go_in;go_wp2;go_loopw [5,6] (λv T wr=>∃(A H:Nat) (B:A9) (P:List (Int × AE)),A<=s.size/\T=.int .i64 (A:Int)/\B.length<=A/\wr.ownsRow w 259 3 v B.length (It B)/\Below w w wr/\Hid (MI H (s.data.toList.drop A)=some P/\E6 B++P=K)) (λ_ T _=>s.size-(intOf T).toNat)
 case atStart=>exact⟨0,f,[],K,Az _,rfl,Az _,Ia _ _ _ _,AN _ _,by rw[Nh];exact b.o,rfl⟩
 case round=>
  obtain⟨A,H,B,P,ha,rfl,AB,hown,Aa,m⟩:=hrel;obtain⟨E,M⟩:=m;rcases H with _|H
  .cases E
  rw[MI] at E;split at E
  .rename_i C;obtain rfl:P=[]:=(Ld E).symm;rw[jk] at C;have Q:=O (AFP s A _ · U ha rfl C);have Z:=O M;clear E M C;generalize A+CU false (s.data.toList.drop A)=D at *;obtain⟨R,L,rfl,AC,_⟩:∃(R:BH) (L:Nat),u5=.slice R B.length L/\B.length<=L/\True:=by
    rcases hown.2 with ⟨rfl,h0⟩|⟨z,e,cur,rfl,_,_,l,_⟩
    .exact⟨none,0,Ux,U,trivial⟩
    .exact⟨_,e,rfl,l,trivial⟩
   go_wp2_with (go_at_call 208;refine(Q.o _).mono ?_;rintro g u ⟨rfl,G⟩)
   have I:=IQ hown G gH;have r:=G.size;refine BE (v:=.tuple #[.slice R B.length L,(),()]) (by simp[results,results150,go_sem]) rfl ⟨_,B,rfl,IQ I C8 (λj hj=>HU I hj.symm),by have:=Z.o;simpa using this,(AW Aa G).alloc Zv _⟩
  .rename_i c t C;rw[jk] at C;split at E
   .cases E
   .rename_i kind F J;rw[I6] at E;obtain⟨S,W,rfl⟩:=E;have V:=AFE (jR _ _ _ _ J);simp only at V;have n:=aN _ _ _ J;have AO:=Sd _ _ _ J;have N:=congrArg List.length C;simp only[EM] at N;have Y:s.data.toList.length=s.size:=AH;have Q:=O (AFO s A _ F c t kind · U ha rfl C J);have AF:A<=A+CU false (s.data.toList.drop A):=Nat.le_add_right _ _;have X:MI H (s.data.toList.drop (A+CU false (s.data.toList.drop A)+F))=some S:=by rw[<-I5,C];exact W
    have d:=O X;have a:Hid (E6 B++(kind,(s.data.toList.drop (A+CU false (s.data.toList.drop A))).take F)::S=K):=by show _=_;rw[C];exact M
    rw[Y] at N;clear W M J C X Y;generalize A+CU false (s.data.toList.drop A)=D at *;have k:D+F<=s.size:=U;have AG:(kind==0)=false:=AM;have x:=O N;clear N n;obtain⟨AJ,AL⟩:=V;have AQ:=Aa.size;go_wp2_with (first
     | (go_at_call 208;refine(Q.o _).mono ?_;rintro g u ⟨rfl,G⟩;have r:=G.size;have I:=IQ hown G gH;have o:=IQ I ((AN _ _).alloc AK (.cells #[kind,.string ⟨((s.data.toList.drop D).take F).toArray⟩,D] 259)) (λj hj=>HU I hj.symm))
     | (at_builtin;go_loud (refine ET AZ _ _ 192 259 AZ underlying192 (.agg #[(),.string .empty,()]) 3 32 U U ALf rfl w _ B.length (It B) _ [.int .i64 kind,.string ⟨((s.data.toList.drop D).take F).toArray⟩,.int .i64 (D:Int)] rfl C2 rfl (by exact o) _ AZ AH U AM ?_);intro AR AS q i AD))
    go_roundw
    case rel=>exact⟨D+F,H,B++[(kind,(s.data.toList.drop D).take F,(D:Int))],S,k,A7,AM,by rw[yx,Cp];exact q,((AW Aa G).alloc U _).trans i,d.o,by rw[ACK];simpa using a.o⟩
    case measure=>exact A5
section
variable{w:AA}
structure BM(B:Nat)(W:AA)(AV:Nat)(T:A9)(v:AB)(en:Int)(k:Nat):Prop where
 blk:AG W AV 194 #[v,k,en,false]
 tok:W.ownsRow B 259 3 v T.length (It T)
 le:k<=T.length
 few:T.length<=8000
 ok:∀x∈E6 T,Jg x
 lo:B<=AV
def AT(T:A9)(k:Nat):Rd:=⟨((E6 T).drop k).map Gf,false⟩
def Cw(T:A9)(k:Nat):(AT T k).AX=AT T (k+1):=by
 simp[AT,Rd.AX]
def BM.below{B:Nat}{W C:AA}{D:Nat}{T:A9}{v:AB}{E:Int}{k:Nat}(A:BM B W D T v E k)(F:Below W W C):BM B C D T v E k:=
 ⟨A.blk.below F A.blk.lt,IQ A.tok F (λH G=>HU A.tok G.symm),A.le,A.few,A.ok,A.lo⟩
def BM.far{B:Nat}{W:AA}{A:Nat}{T:A9}{v:AB}{C:Int}{k:Nat}(h:BM B W A T v C k):some A≠v.ownBlock:=h.blk.apart h.tok AD
def Bl{S:List Nat}{E:AA}{C n size:Nat}{e:TypeId}{v:AB}{F:List AB}(D:w.ownsRow C e size v n F)(I:AP S w E)(G:∀g cs,AG w g e cs->g∉S):E.ownsRow C e size v n F:=by
 refine WF D I (λK J A=>?_);rcases D.2 with ⟨B,_⟩|⟨g,L,cur,B,_,H,_⟩
 .rw[B] at A;cases A
 .rw[B] at A;simp only[Value.ownBlock,CW] at A;subst A;exact G K cur H J
def AG.same{g t C:Nat}{cs D:Array AB}(B:AG w g t cs)(A:AG w g C D):t=C:=by
 unfold AG at B A;rw[B] at A;injection A with A;injection A with _ A
def yy(T:A9):∀(k:Nat) (h:k<T.length),(It T)[k*3]? = some (.int .i64 T[k].1)/\(It T)[k*3+1]? = some (AR T[k].2.1)/\(It T)[k*3+2]? = some (.int .i64 T[k].2.2):=by
 induction T with
 | nil=>intro k h;cases h
 | cons A T C=>
  intro k h;have B:It (A::T)=.int .i64 A.1::AR A.2.1::.int .i64 A.2.2::It T:=rfl;rcases k with _|k
  .exact⟨rfl,rfl,rfl⟩
  .have:=C k Fq;rw[B,show(k+1)*3=k*3+1+1+1 by omega];exact E_
def BM.cells{B:Nat}{W:AA}{E:Nat}{T:A9}{v:AB}{G:Int}{k:Nat}(h:BM B W E T v G k)(J:k<T.length):
 ∃g c,v=.slice (some ⟨g,0,none⟩) T.length c/\T.length<=c/\g<W.heap.size/\W.cell? ⟨g,k*3,none⟩=some (.int .i64 T[k].1)/\W.cell? ⟨g,k*3+1,none⟩=some (AR T[k].2.1):=by
 rcases h.tok.2 with ⟨_,O⟩|⟨g,F,cur,L,_,C,H,_,_,K⟩
 .omega
 .obtain⟨M,N,_⟩:=yy T k J;have D:∀A,A<T.length*3->cur[A]? = (It T)[A]?:=by
   intro A I;rw[<-K,Lc,Ab I];simp
  refine⟨g,F,L,H,AG.lt (t:=259) (cs:=cur) C,?_,?_⟩
  .rw[AG.cell (t:=259) (cs:=cur) C,D _ U,M]
  .rw[AG.cell (t:=259) (cs:=cur) C,D _ U,N]
def BM.slice{B:Nat}{W:AA}{C:Nat}{T:A9}{v:AB}{E:Int}{k:Nat}(h:BM B W C T v E k):∃a c,v=.slice a T.length c/\T.length<=c:=by
 rcases h.tok.2 with ⟨A,F⟩|⟨H,D,cur,A,_,_,G,_⟩
 .exact⟨none,0,by rw[A,F],U⟩
 .exact⟨_,D,A,G⟩
def S8(T:A9)(k:Nat)(A:k<T.length):(AT T k).l=Gf (T[k].1,T[k].2.1)::((E6 T).drop (k+1)).map Gf:=by
 have B:k<(E6 T).length:=by simpa[E6] using A
 simp only[AT,Kk B,HA];simp[E6]
def AB7{T:A9}{k:Nat}(F:∀x∈E6 T,Jg x)(B:k<T.length){s:AE}(G:MS s=true):(AT T k).Am s=(T[k].2.1==s):=by
 have A:=S8 T k B;have C:Jg (T[k].1,T[k].2.1):=F _ (Gr.2 ⟨T[k],Gq _,rfl⟩);have D:=yw C G (((E6 T).drop (k+1)).map Gf);have E:AT T k=⟨Gf (T[k].1,T[k].2.1)::((E6 T).drop (k+1)).map Gf,false⟩:=by
  unfold AT at A ⊢;simp only at A;rw[A]
 rw[E];exact D
def kZ{T:A9}{k:Nat}(h:¬k<T.length)(s:AE):(AT T k).Am s=false:=by
 have:(E6 T).drop k=[]:=Mg xI;simp[AT,this,Rd.Am]
def gR(b:Bool)(w:AA)(e:Ending)(A:AA):Prop:=e=.returned (.bool b)/\Below w w A
def LV(B:Nat)(W:AA)(C:Nat)(T:A9)(v:AB)(D:Int)(k:Nat)(s:AE)(h:BM B W C T v D k)(H:MS s=true):
 AI 155 #[.pointer C,.string ⟨s.toArray⟩] W (gR ((AT T k).Am s) W):=by
 obtain⟨J,K,Q⟩:=h.blk.y2;have L:=h.blk.g3;have M:=h.few;by_cases A:k<T.length
 .obtain⟨N,c,rfl,E,P,S,U⟩:=h.cells A;have AC:=O (AB7 h.ok A H);have F:decide ((k:Int)<(T.length:Int))=true:=AM;have G:decide (k<T.length)=true:=AM;generalize T[k].2.1=V at *;generalize T[k].1=R at *;exact X8
 .obtain⟨I,c,rfl,E⟩:=h.slice;have AC:=O (kZ A s);have F:decide ((k:Int)<(T.length:Int))=false:=AM;have G:decide (k<T.length)=false:=AM;exact X8
end
def FL{l x:AE}(A:Oz l=false)(C:mX.contains x=true):l≠x:=by
 intro B;subst B;rw[Oz,C] at A;cases A
def AGg(l:AE)(w:AA)(h:Oz l=false):AI 210 #[.string ⟨l.toArray⟩] w (BX (.bool false) w):=by
 exact uJ
def mY(l:AE)(w:AA):AI 214 #[.string ⟨l.toArray⟩] w (BX (.int .i64 ((GD.lookup l).getD 0)) w):=by
 by_cases h0:l=[118,111,108,117,110,116,97,114,121]
 .subst h0;exact H8
 by_cases h1:l=[115,101,114,118,105,99,101]
 .subst h1;exact H8
 by_cases h2:l=[117,110,101,109,112,108,111,121,101,100]
 .subst h2;exact H8
 by_cases h3:l=[115,105,99,107]
 .subst h3;exact H8
 by_cases h4:l=[99,104,105,108,100]
 .subst h4;exact H8
 by_cases h5:l=[114,101,115,105,100,101,110,99,101]
 .subst h5;exact H8
 have e:(GD.lookup l).getD 0=0:=by
  have A:∀B:AE,¬l=B->(l==B)=false:=λB h=>Fq;simp only[GD,List.lookup,A _ h0,A _ h1,A _ h2,A _ h3,A _ h4,A _ h5,Option.getD_none]
 have Aq:=O e;have C:(l==[118,111,108,117,110,116,97,114,121])=false:=Zc;have D:(l==[115,101,114,118,105,99,101])=false:=OR;have E:(l==[117,110,101,109,112,108,111,121,101,100])=false:=SN;have F:(l==[115,105,99,107])=false:=SL;have G:(l==[99,104,105,108,100])=false:=gu;have H:(l==[114,101,115,105,100,101,110,99,101])=false:=wI;exact eL
def pH(l:AE)(w:AA):AI 215 #[.string ⟨l.toArray⟩] w (BX (.int .i64 ((F5.lookup l).getD 0)) w):=by
 by_cases h0:l=[111,108,100]
 .subst h0;exact H8
 by_cases h1:l=[100,105,115,97,98,105,108,105,116,121]
 .subst h1;exact H8
 by_cases h2:l=[115,117,114,118,105,118,111,114]
 .subst h2;exact H8
 by_cases h3:l=[102,97,109,105,108,121]
 .subst h3;exact H8
 by_cases h4:l=[115,105,99,107,110,101,115,115]
 .subst h4;exact H8
 have e:(F5.lookup l).getD 0=0:=by
  have A:∀B:AE,¬l=B->(l==B)=false:=λB h=>Fq;simp only[F5,List.lookup,A _ h0,A _ h1,A _ h2,A _ h3,A _ h4,Option.getD_none]
 have Aq:=O e;have C:(l==[111,108,100])=false:=Zc;have D:(l==[100,105,115,97,98,105,108,105,116,121])=false:=OR;have E:(l==[115,117,114,118,105,118,111,114])=false:=SN;have F:(l==[102,97,109,105,108,121])=false:=SL;have G:(l==[115,105,99,107,110,101,115,115])=false:=gu;exact eL
def AFl(l:AE)(w:AA):AI 216 #[.string ⟨l.toArray⟩] w (BX (.int .i64 ((IS.lookup l).getD 0)) w):=by
 by_cases h0:l=[100,111,119,110]
 .subst h0;exact H8
 by_cases h1:l=[117,112]
 .subst h1;exact H8
 by_cases h2:l=[104,97,108,102]
 .subst h2;exact H8
 by_cases h3:l=[101,118,101,110]
 .subst h3;exact H8
 have e:(IS.lookup l).getD 0=0:=by
  have A:∀B:AE,¬l=B->(l==B)=false:=λB h=>Fq;simp only[IS,List.lookup,A _ h0,A _ h1,A _ h2,A _ h3,Option.getD_none]
 have Aq:=O e;have C:(l==[100,111,119,110])=false:=Zc;have D:(l==[117,112])=false:=OR;have E:(l==[104,97,108,102])=false:=SN;have F:(l==[101,118,101,110])=false:=SL;exact eL
def ADj(c:UInt8)(w:AA):AI 301 #[.int .u8 (c.toNat:Int)] w (BX (.bool (GC c)) w):=by
 exact tX
def lB(c:UInt8)(b:Bool)(A:GC c=b)(w:AA):AI 301 #[.int .u8 (c.toNat:Int)] w (BX (.bool b) w):=A▸ADj c w
def AEE(c:UInt8)(w:AA):AI 347 #[.int .u8 (c.toNat:Int)] w (BX (.bool (CD c)) w):=by
 exact tW
def lK(c:UInt8)(b:Bool)(A:CD c=b)(w:AA):AI 347 #[.int .u8 (c.toNat:Int)] w (BX (.bool b) w):=A▸AEE c w
