import Derived.Test.YtcpcgpbohiineaaGreatDoorCards
import Derived.Test.YtcpcgpbohiineaaGreatDoorRows
import Derived.Test.YtcpcgpbohiineaaGreatDoorTie
import Derived.Test.YtcpcgpbohiineaaGreatDoorY03
import Derived.Test.YtcpcgpbohiineaaGreatDoorY23
import Derived.Test.YtcpcgpbohiineaaGreatDoorY24
import Derived.Test.YtcpcgpbohiineaaGreatDoorY25
import Derived.Test.YtcpcgpbohiineaaGreatDoorY26
namespace Go.Proofs.YtcpcgpbohiineaaGreatDoor
open Go.RowKit Go.Proofs.Tryz
set_option linter.all false
set_option maxRecDepth 100000
set_option maxHeartbeats 4000000
section
open Go.Maps (Keyed)
variable{B b:Nat}{l:AE}{Y:AA}
def DQ.empty{w:AA}{P:Program}{k:TypeId}(h:w.heap[b]? = some (.map #[] 0)):DQ w P k b 0 (λ_=>none):=by
 have D:b<w.heap.size:=(E7.1 h).1;have C:({ w with heap:=w.heap.extract 0 b } : AA).heap.size=b:=AM;have A:=DQ.made ({ w with heap:=w.heap.extract 0 b } : AA) P k;rw[C] at A;refine A.keep ?_;rw[h];have:=Hf ({ w with heap:=w.heap.extract 0 b } : AA) (.map #[] 0);rw[C] at this;exact this.symm
def AH2(A:Int->Int->AB):LX [] A=λ_=>none:=by
 funext x
 unfold LX;split
 .simp[B_,Bo]
 .rfl
def ALI(ab:Nat->Nat):Ks (λ_=>false) ab=λ_=>none:=by
 funext x
 unfold Ks;split<;>simp
def cR(C D A E:Nat)(F G H:AB):Cs:=⟨C,D,A,E,F,G,H,0,0,λ_ _=>.slice none 0 0,λ_=>false,λ_=>0,λ_=>0,λ_=>.slice none 0 0⟩
def Uy.start{w E:AA}{x:B6}{s:Int}{C D A F:Nat}{G H I:AB}(h:Uy B w E x s b C D A F G H I):Cr w E b s Eh (cR C D A F G H I):=by
 obtain⟨K,L,M,N,O⟩:=h.lo;refine⟨h.blk,⟨h.fd,xT,λQ J=>by cases J⟩,⟨xa,R1,(λp _=>rfl),⟨?_,R1⟩,(λp P hp=>by cases hp),R1⟩,⟨?_,?_,K⟩,?_⟩
 .show _<=A;omega
 .omega
 .show _<=C;omega
 .show D≠A;omega
def Cr.cO{w:AA}{A:Nat}{s:Int}{i:Ins}{g:Cs}(h:Cr B w A s i g)(j:Nat):Cr B (w.setCell ⟨A,7,none⟩ (.pointer j)) A s i { g with A1:=j }:=by
 have I:AP [A] w (w.setCell ⟨A,7,none⟩ (.pointer j)):=(AP.refl _ _).setCell AH _;have H:∀D F E,AG w D F E->F≠75->D∉[A]:=λD F E hq ht hm=>by
  exact rG
 have G:∀b,(∃K J,w.heap[b]? = some (.map K J))->b∉[A]:=λb hb hm=>by
  exact q8
 have C:=h.CK.kept I (λD F E hq ht=>H D F E hq Zx) (G _ h.CK.map.isMap) (λp L=>G _ (h.CK.acc p L).map.isMap);refine⟨?_,h.fd.kept I (H _ _ _ h.fd.blk AD) (G _ h.fd.map.isMap) (λD E hq=>H _ _ _ hq AD),⟨C.map,C.acc,C.no,C.lo,C.ap,C.mm⟩,h.lo,h.fa⟩;have:=h.blk.put 7 (.pointer j);simpa[Wo] using this
def Cr.lower{B':Nat}{w:AA}{E:Nat}{s:Int}{i:Ins}{g:Cs}(h:Cr B w E s i g)(A:B'<=B):Cr B' w E s i g:=by
 obtain⟨H,I,J⟩:=h.lo;obtain⟨K,D⟩:=h.CK.lo;exact⟨h.blk,h.fd,⟨h.CK.map,h.CK.acc,h.CK.no,⟨U,λp C=>⟨Ap A (D p C).1,Ap A (D p C).2.1,λG F=>Ap A ((D p C).2.2 G F)⟩⟩,h.CK.ap,h.CK.mm⟩,⟨U,U,U⟩,h.fa⟩
def OA.far{w:AA}{I C:Nat}{G:Int}{J:List (Nat × Nat)}{L K:AB}{cs:Array AB}(h:OA B w I l G J L K)(M:AG w C 75 cs)(k:Nat)(u:AB):OA B (w.setCell ⟨C,k,none⟩ u) I l G J L K:=by
 have E:AP [C] w (w.setCell ⟨C,k,none⟩ u):=(AP.refl _ _).setCell AH _;have D:∀q F cs,AG w q F cs->F≠75->q∉[C]:=λq F cs A N H=>by
  simp only[Aj,A',A_] at H;subst H;exact N (A.same M)
 exact⟨h.blk.kept E (D _ _ _ h.blk AD),Bl h.row E (λq cs A=>D _ _ _ A AD),h.at'.kept E (λq cs A=>D _ _ _ A AD) BW,h.ok⟩
def AEi{i:Ins}{k:Nat}{s:Int}(C:foldI (B0 l) Eh=some i)(A:IA i k):NO s l=true↔(DF (C4 i.f s)=[]\/DF (C4 i.f s)=[(1,(Gg i.f s:Int)+1)]):=by
 rw[lY C,CJ];exact(AGk A.Oi A.MY s).symm
structure OD(w X:AA)(BO:Nat)(s:Int)(i:Ins)(g:Cs)(B2:Nat)(a_:List AE)(v:AB):Prop where
 ins:Cr w X BO s i g
 bB:Gs B2 X a_ v
 AJ:Below w w X
def OD.below{w A:AA}{F:Nat}{s:Int}{i:Ins}{g:Cs}{E:Nat}{G:List AE}{v:AB}(C:OD w A F s i g E G v)(D:Below A A Y):OD w Y F s i g E G v:=⟨C.ins.below D,C.bB.below D,AW C.AJ D⟩
def OD.next{w F:AA}{D:Nat}{s:Int}{i j:Ins}{g G:Cs}{E:Nat}{I:List AE}{v:AB}(h:OD w F D s i g E I v)(K:Cr w Y D s j G)(hw:Wr w F Y):OD w Y D s j G E I v:=by
 refine⟨K,?_,h.AJ.trans (hw.AJ h.AJ.size)⟩;obtain⟨L,J,_,H⟩:=hw;exact h.bB.kept J (λg A C=>H g _ A C VC) (λg A C=>H g _ A C VC)
end
section
variable{w':AA}
def gS(x:B6)(s:Int)(l:AE)(w:AA)(e:Ending)(w':AA):Prop:=(∃A:Nat,e=.returned (.tuple #[.pointer (if F1 x s l=0 then some ⟨A,0,none⟩ else none),.int .i64 (F1 x s l)]))/\Below w w w'
def Wm{x:B6}{s:Int}{l:AE}{w:AA}{n:Int}(C:n=F1 x s l)(A:n≠0)(B:Below w w w'):gS x s l w (.returned (.tuple #[.pointer none,n])) w':=by subst C;exact⟨⟨0,by rw[AU A]⟩,B⟩
def mh{x:B6}{s:Int}{l:AE}{w:AA}{b:Nat}(B:0=F1 x s l)(A:Below w w w'):gS x s l w (.returned (.tuple #[.pointer b,()])) w':=⟨⟨b,by rw[<-B];rfl⟩,A⟩
def ov(l:List Kd)(s:Int):∀(f:Nat) (n p:Int),(G_ l s f n p).length<=f
 | 0,_,_=>by simp[G_]
 | f+1,n,p=>by
  cases A:EK s n l with
  | none=>rw[Nu A];simp
  | some B=>
   by_cases C:Ba B=p
   .rw[XX A C];have:=ov l s f (n+1) (EX B);simp;omega
   .rw[dg A C];simp
def lA(B:Nat)(x:B6)(s:Int)(w:AA)(BB BC BD BE:AB)(l:AE)(Bd:B<=w.heap.size)(Au:Cl w)(h:CP B w x BB BC BD)(Av:Ho x)(Ax:Af w w BE l)(Bf:l.length<=140737488355328)(Bk:Ec s):
 AI 8 #[s,.agg #[BB,BC,BD],BE] w (gS x s l w):=by
 have F:=O (FZ.new h);have E:=O Av;have BM:=O Ax;have AG:=O Au;obtain⟨Bz,CE,rfl,_⟩:=h.c1.slice;obtain⟨B1,CF,rfl,_⟩:=h.c2.slice;obtain⟨B2,CG,rfl,_⟩:=h.c3.slice;obtain⟨CK,CL,rfl,_⟩:=Ax;clear h Av Au;obtain⟨G,H,I,Be⟩:=F.o.blk.y3;go_in;go_wp2_with fail;clear G H I Be;by_cases he:Dw x s=0
 .refine(bK B x s _ _ _ _ (Ap Bd F.o.AJ.size) (AG.o.after F.o.AJ) F.o.law E.o he).mono ?_;rintro C BG ⟨R,BY,BZ,BT,A1,Bo,Bp,Bq,rfl,AO⟩;have S:=O he;have Ag:=O (AO.start.lower F.o.AJ.size);have Eb:=O (AW F.o.AJ AO.AJ);clear he AO F E AG;obtain⟨G,H,I,M,J,N,P,Q,K⟩:=Ag.o.blk.BF;clear G H I M J N P;go_wp2_with fail;refine(ADu _ l _ ((BM.o.below Eb.o).mono Eb.o.size) Bf).mono ?_;rintro C AZ ⟨V,B4,Bn,Bv,Bs,rfl,Am,A2,A6,hb2⟩;replace Ag:=O Yp;replace Eb:=O (AW Eb.o hb2);have Ae:=O (Am.far Ag.o.blk 7 (.pointer V));have A:=O (Ag.o.cO V);have A9:Below w w (AZ.setCell ⟨R,7,none⟩ (.pointer V)):=Eb.o.setCell Ag.o.lo.1 _;have A_:BG.heap.size<=(AZ.setCell ⟨R,7,none⟩ (.pointer V)).heap.size:=by simpa using hb2.size
  clear Q K Am;obtain⟨G,H,I,M,J,N,P,Q,K⟩:=Ag.o.blk.BF;have BV:=Ag.o.blk.frozen 7;have Ai:=O A2;clear G H I M J N P hb2 A2 Eb Ag;replace Eb:=O A9;clear A9;go_upto_region 5 with fail;clear Q K BV;generalize AZ.setCell ⟨R,7,none⟩ (.pointer V)=AH at *;obtain⟨G,H,I,M,J,N,P,Q,K⟩:=A.o.blk.BF;clear G H I M J N P;go_wp2_with fail;refine(ADF _ AH V _ _ Bn Bv Bs Ae.o A_ A6 M8).mono ?_;rintro C Bw ⟨BF,rfl,o,AQ⟩;rw[<-Ai.o] at o;have Ah:Hid (OD w Bw R s Eh { cR BY BZ BT A1 Bo Bp Bq with A1:=V } AH (B0 l) BF):=⟨A.o.below AQ,o,AW Eb.o AQ⟩;obtain⟨Bl,Bm,rfl,_⟩:=AS.slice o;have CD:(B0 l).length<=20000:=(V5 20000 l).1;clear o AQ A Ae Eb Ai Q K A_ A6;go_wp2_with fail;generalize AH.heap.size=BH at *;go_loopw [33] (λAa wr=>∃(k:Nat) (i:Ins) (D:Cs),Aa=.int .i64 (k:Int)/\k<=(B0 l).length/\IA i k/\D.n<=k/\D.c<=k/\OD w wr R s i D BH (B0 l) (.slice Bl (B0 l).length Bm)/\Hid (foldI (B0 l) Eh=foldI ((B0 l).drop k) i)) (λAa _=>20001-(intOf Aa).toNat)
  case atStart=>exact⟨0,Eh,_,rfl,Az _,IA.zero,Bh _,Bh _,Ah.o,rfl⟩
  case round=>
   clear Ah;obtain⟨k,i,D,rfl,B9,A0,B8,B7,A3,g⟩:=hrel;have A:=O A3;have E:=O A0;clear A3 A0;by_cases AV:k<(B0 l).length
   .obtain⟨Z,r⟩:=BQ (B0 l) k AV;have AK:=Ar k ((B0 l).length:Int);obtain⟨Bi,Bj⟩:=(V5 20000 l).2 Z (Bu r);obtain⟨q,B3,Br,L,_,CC,_,Bc,Ak⟩:=AS.at A.o.bB ux k Z r;injection L with L h6 h7;subst L h7;obtain⟨BF,rfl,AX⟩:=Bc;have d:=Ak 0 AD;simp only[Q9,Ci,A8] at d;have e:=O (Af.FI AX);obtain⟨CQ,CR,rfl⟩:=CV AX;have j:Hid (foldI (B0 l) Eh=match CO i Z with|some t=>foldI ((B0 l).drop (k+1)) t|none=>none):=by
     show _=_;rw[g.o,nS r];cases CO i Z<;>rfl
    clear r Ak AX g h6;go_wp2_with fail;refine(nA w wr R s i D k _ Z A.o.ins A.o.AJ.size E.o U U U e.o Bi Bj).mono ?_;intro C CM f;unfold K7 at f;clear d;cases ha:CO i Z with
    | none=>
     rw[ha] at f;obtain⟨⟨z,A',rfl⟩,hw⟩:=f;have W:=O (TK (x:=x) (s:=s) S.o (lZ (by rw[j.o,ha])));have Eb:=O (A.o.AJ.trans (hw.AJ A.o.AJ.size));have AL:(z==0)=false:=Aw.2 A';clear ha j A e hw A';go_wp2_with fail;go_ret2;exact Wm W.o AD Eb.o
    | some t=>
     rw[ha] at f;obtain⟨rfl,Ba,Al,B',B5,hw,_⟩:=f;have BP:=O (A.o.next Al hw);have BJ:=O (E.o.next ha);have BI:Hid (foldI (B0 l) Eh=foldI ((B0 l).drop (k+1)) t):=by show _=_;rw[j.o,ha]
     clear ha j A e Al E hw;go_wp2_with fail;go_roundw
     case rel=>exact⟨k+1,t,Ba,A7,U,BJ.o,U,U,BP.o,BI.o⟩
     case measure=>exact A5
   .have Ad:Hid (foldI (B0 l) Eh=some i):=by
     show _=_;rw[g.o,Mg U];rfl
    have AK:=A4 k ((B0 l).length:Int);have BX:decide (k<(B0 l).length)=false:=DI AV;have T:=O (AEi (s:=s) Ad.o E.o);obtain⟨G,H,I,M,J,N,P,Q,K⟩:=A.o.ins.blk.BF;clear G H I M N P Q g Ad;go_wp2_with fail;refine(ADS wr D.Ak D.BU i.f D.V D.c s A.o.ins.fd E.o.Oi E.o.MY (by have:=E.o.fl;omega)).mono ?_;rintro C c ⟨v,rfl,n,As⟩;obtain⟨X,Ao⟩:∃X,X=DF (C4 i.f s):=⟨_,rfl⟩;rw[<-Ao] at n T;replace A:=O (A.o.below As);obtain⟨CH,CI,rfl,CB⟩:=AS.slice n;have e:=O n;clear n As Ao J K AK BX AV;generalize AT:Gg i.f s=u at *;have B_:u<=1000:=by rw[<-AT];exact ov _ _ _ _ _
    have BN:=O AT;clear AT;obtain⟨G,H,I,M,J,N,P,Q,K⟩:=A.o.ins.blk.BF;clear G H I M N P Q;rcases Nat.lt_trichotomy X.length 1 with L|L|L
    .obtain rfl:X=[]:=Jw U;have W:=O (bd (x:=x) S.o (T.o.2 (.inl rfl)));clear T;go_wp2_with fail;go_quiet (fail)
     go_wp2_with fail;go_ret2;exact mh W.o (Do A.o.AJ _)
    .obtain⟨p,rfl⟩:∃p,X=[p]:=List.length_eq_one_iff.1 L;obtain⟨y,AC⟩:=p;obtain⟨AY,CJ,Br,Bb,_,Ay,_,Aj,AM⟩:=AS.at e.o (λ_ _ q=>Hk.len q) 0 _ rfl;injection Bb with AL e2 e3;subst AL e3;unfold Hk at Aj;subst Aj;have d:=AM 0 AD;have Ac:=AM 1 AD;simp only[O6,DP,A8,Bt] at d Ac;have BA:Hid (F1 x s l=if (y==1&&AC==(u:Int)+1)=true then 0 else 11):=by
      show _=_;by_cases Y:(y==1&&AC==(u:Int)+1)=true
      .rw[Ab Y];simp only[At,C7] at Y;exact(bd S.o (T.o.2 (.inr (by rw[Y.1,Y.2])))).symm
      .rw[AU Y];refine(TK S.o ?_).symm;rw[Tl];intro h;rcases T.o.1 h with C|C
       .cases C
       .injection C with C _;injection C with e5 e6;exact Y (by simp[e5,e6])
     clear T AM L e2;go_wp2_with fail;refine QE [] [16] [0,1,2,3,4,5,6,7,8,9,10,11,12,13,14,15,16,17,18,19,20,21] AF AF rfl AD AF BK ?_;refine Hm ?_;have Bx:c.drew.cell? ⟨AY,0,none⟩=some (y:AB):=d;have By:c.drew.cell? ⟨AY,1,none⟩=some (AC:AB):=Ac;have Bg:AY<c.drew.heap.size:=Ay;have BU:c.drew.cell? ⟨R,4,none⟩=some (.pointer D.Ak):=J;have BW:R<c.drew.heap.size:=K;replace A:=O (A.o.below (AN _ _).drew);clear d Ac Ay J K;generalize c.drew=BS at *;iterate 16 refine Fk ?_
     refine J6 ?_;intro BR An;go_simp;go_at_call 28;refine(bG BS D.Ak D.BU i.f D.V D.c s A.o.ins.fd E.o.MY Bk).mono ?_;rintro C CN ⟨rfl,AR⟩;rw[BN.o];refine An _ _ (AP.of_below AR) ?_;have Eb:=O (AW A.o.AJ AR);clear An BR AR Bx By Bg BU BW;by_cases m:y=1
     .by_cases AJ:AC=(u:Int)+1
      .rw[Ab (by simp[m,AJ])] at BA;subst m AJ;iterate 5 refine Fk ?_
       refine MU ?_;go_wp2_with fail;go_ret2;exact mh BA.o.symm Eb.o
      .rw[AU (by simp[AJ])] at BA;subst m;exact ru
     .rw[AU (by simp[m])] at BA;exact ru
    .have AK:=Ar 1 X.length;have W:Hid (F1 x s l=11):=by
      refine(TK S.o ?_).symm;rw[Tl];intro h;rcases T.o.1 h with C|C<;>rw[C] at L<;>simp at L
     go_wp2_with fail;go_quiet (fail)
     go_wp2_with fail;go_ret2;rw[<-W.o];exact Wm rfl (by rw[W.o];decide) (Do A.o.AJ _)
 .refine(bL B x s _ _ _ _ (AG.o.after F.o.AJ) F.o.law E.o he).mono ?_;rintro C BG ⟨rfl,Aq⟩;have S:Hid (Dw x s=F1 x s l):=wo;have BO:=O he;have AL:(Dw x s==0)=false:=Aw.2 he;have Eb:=O (AW F.o.AJ Aq);clear he Aq F E;go_wp2_with fail;go_ret2;exact Wm S.o BO.o Eb.o
end
section
open Go.RowKit Go.Sort Go.Shelf
def AEU{D:Type}{w:AA}(P:Program)(k:TypeId)(B:AB->Option (DataW D × List MemPlace)){b:Nat}(E:w.heap[b]? = some (.map #[] 0)):w.ownsMap P k B b 0 (.map []):=by
 obtain⟨I,H,A,C,G,F⟩:=World.ownsMap_made w P k B;rw[Hf] at A;injection A with A;injection A with e1 e2;subst e1 e2;exact⟨_,_,E,C,G,F⟩
def ALT(m:Nat):AnyZI.SortsIn prog s8 Fence.wide m:=
 ⟨λC G B I A D E F=>Nd.2 (s_ C G B I A D E F),
  λH B A=>Nd.2 (s9 H B A)⟩
def AK'(BV:Option Nat)(w:AA):AI 195 #[.map BV] w λe A=>e=.returned (.func (.func 275) #[] #[.pointer w])/\A=w.alloc (.cells #[.map BV] 71):=
 Nd.1 (AnyZI.keys_in tD Fence.wide 5 trivial rfl BV w)
def AKr(A:Nat)(w:AA)(h:w.heap[A]? = some (.map #[] 0)):
 AI 194 #[.func (.func 275) #[] #[.pointer w]] (w.alloc (.cells #[.map (some A)] 71)) λe D=>e=.returned AL/\Below w w D:=by
 have E:A<w.heap.size:=(E7.1 h).1;have F:(w.alloc (.cells #[.map (some A)] 71)).ownsMap prog 3 PK A 0 (.map []):=AEU _ _ _ ((GI _ _ A E).trans h);have G:SeqGives Fence.wide 2 prog 275 #[.pointer w] encZ (λB=>B.Perm (intKeys (.map []:DataW AB))) (Maps.size (.map []:DataW AB)) (w.alloc (.cells #[.map (some A)] 71)):=
  AnyZI.keys_gives (ρ:=tC) { tD with } Fence.wide _ trivial rfl U w A 0 (.map []) _ AH AH F
 have C:=AnyZI.sorted_in ALU Fence.wide 5 trivial trivial trivial trivial rfl U (ALT _) (enters_of func120 AF rfl) 275 #[.pointer w] trivial (enters_of func275 AF rfl) _ _ AD AD _ G;change CallsIn _ _ prog 194 _ _ _ at C
 go_call Nd.1 C as e D ⟨v,B,rfl,hS,hrow,hnil,hb⟩;have:B=[]:=List.Perm.eq_nil hS;rw[hnil.2 this];exact⟨rfl,((AN _ w).alloc AK _).trans (hb.mono AH)⟩
def AFv(b:Nat)(B:Array MapEntry)(A:Nat)(w:AA)(C:w.heap[b]? = some (.map B A)):
 AI 144 #[.map (some b)] w λe D=>e=.returned (.map (some w))/\D=w.alloc (.map B A):=
 AnyW.maps_Clone ALW b B A w C
end
section
variable{w:AA}{A1 BO n c:Nat}{l:List AB}{a:BH}
attribute [local irreducible] Cu
def ACq{s:Int}(h:AG w BO 75 (.int .i64 s::l).toArray):
 AI 33 #[.pointer BO] w λe A=>e=.returned s/\w=A:=by
 obtain⟨B,C⟩:=h.y1;exact FA
def ADp{A B C D E F:AB}{n:Int}(h:AG w BO 75 (A::B::C::D::E::F::.int .i64 n::l).toArray):
 AI 34 #[.pointer BO] w λe G=>e=.returned n/\w=G:=by
 obtain⟨H,I,J,K,L,M,N,O⟩:=h.ST;exact FA
def AET(w:AA)(B C:Nat)(K:List Kd)(A:Int->Int->AB)(c:Nat)(s n:Int)(h:Dj w B C K A c)(G:Ec s)(H:Ec n)(E:B_ s n K=false):
 AI 197 #[.pointer B,s,n] w (BX (.tuple #[AL,false]) w):=by
 have D:=lH w B C K A c s n h G H;have I:Hz K A s n=.slice none 0 0:=by unfold Hz;rw[AU (by rw[E];decide)]
 rw[E,I] at D;have F:=O D;go_in;go_wp2_with (first
  | (go_at_call 124;refine F.o.mono ?_;rintro e w' ⟨rfl,rfl⟩)
  | (go_at_call 60;refine(tM 0 0 _).mono ?_;rintro e w' ⟨rfl,rfl⟩))
 go_ret2;exact N1
def AGm{A B:AB}(h:AG w A1 158 #[A,B,.slice a n c]):
 AI 279 #[.pointer A1] w λe C=>e=.returned n/\w=C:=by
 obtain⟨D,E,F,G⟩:=h.y3;exact FA
def AHt{B:AB}{f:Int}(A:AG w A1 158 #[.slice a n c,f,B]):
 AI 201 #[.pointer A1] w λe C=>e=.returned (.tuple #[])/\C=w.setCell ⟨A1,1,none⟩ n:=by
 obtain⟨D,E,F,H⟩:=A.y3;have G:=A.frozen 1;go_in;go_wp2;exact Lh (v:=.tuple #[]) (by simp[results,results201]) rfl ⟨rfl,rfl⟩
def zd(w:AA):AI 273 #[AL] w λe C=>e=.returned AL/\w=C:=by
 have D:∀(w:AA) (a:BH) (n c B A:Nat),(binOp .eql 94 (.slice a n c) (.slice none B A)).run prog w=.ok (.bool a.isNone) w:=λw a n c B A=>Lib.run_eql_slice_nil w _ _ a n c B A underlying94;exact FA
def nU{D C:Nat}{B:Array MapEntry}{A:Nat}(h:AG w D 156 #[.map (some C)])(G:w.heap[C]? = some (.map B A)):
 AI 80 #[.pointer D] w λe E=>e=.returned (.pointer (some ⟨w.heap.size+1,0,none⟩))/\E=(w.alloc (.map B A)).alloc (.cells #[.map (some w)] 156):=by
 obtain⟨H,I⟩:=h.y1;have F:=O (AFv C B A w G);go_in;go_wp2_with (go_at_call 144;refine F.o.mono ?_;rintro e E ⟨rfl,rfl⟩)
 go_ret;exact⟨AH,rfl⟩
def AGn(h:AG w A1 158 #[AL,(),AL]):
 AI 193 #[.pointer A1] w λe A=>∃j,e=.returned (.pointer (some ⟨j,0,none⟩))/\AG A j 158 #[AL,(),AL]/\w.heap.size<=j/\Below w w A:=by
 have B:=O h;obtain⟨E,F,G,C⟩:=h.y3;go_in;go_wp2_with fail;refine DB [4,13,15] [0,1,2,3,5,6,7,8,9,10,11,12,4,13,14,15,16] w AF AF rfl AD AF BK ?_;refine Ea ?_;replace B:=O B.o.drew;have D:=O (AN w w).drew;obtain⟨E,F,G,C⟩:=B.o.y3;have H:w.drew.heap.size=w.heap.size:=rfl;generalize w.drew=I at *;rw[H] at C;refine Cq ?_;intro K hK;go_at_call 60;go_call tM 0 0 _ as e A ⟨rfl,rfl⟩;refine JG ?_;refine Cq ?_;intro K hK;go_at_call 273;go_call zd _ as e A ⟨rfl,rfl⟩;refine JG ?_;refine Cq ?_;intro K hK;refine hK _ _ _ AK ((AN _ _).alloc U _) ?_;refine HM ?_;go_wp2_with fail;go_ret;exact⟨_,rfl,AG.newAt _ _ _ _ U,U,D.o.alloc U _⟩
def AIS(B:Nat)(v:AB)(l:AE)(w:AA)(h:w.ownsRow B 5 1 v l.length (A3 l))(H:l.length<=10000):
 AI 200 #[v] w (iG (1::l) w):=by
 obtain⟨a,c,rfl⟩:=CV h;have D:=O (Hv (h.alloc (.cells #[.int .u8 1] 5)));have C:=O (Qc w w #[.int .u8 1] [1] rfl AK AD);go_in;go_wp2_with (at_builtin;go_loud (refine JU AZ _ _ 27 5 AZ underlying27 (.int .u8 0) 1 1 AD AD HH rfl w _ 1 (A3 [1]) _ rfl (by exact C.o) _ l.length (A3 l) LA (KV l) rfl (by exact D.o) U AH ?_);intro I F A E G)
 go_ret;refine⟨_,rfl,?_,((AN _ _).alloc AK _).trans E⟩;rw[<-RY] at A;rw[CB,Nat.add_comm];exact A
end
section
variable{Y:AA}
attribute [local irreducible] Cu
def lP(w:AA)(t:TypeId)(cs:Array AB)(n c:Nat):FV (w.alloc (.cells cs t)) (.slice w n c) n cs.toList:=
 .inr ⟨_,_,rfl,λB C A=>by
  rw[Mo,DP,(AG.new w t cs).cell B];simpa using A⟩
def iV{ops:Array Oper}{rest:List Oper}{o:Oper}{a:Act}{Q:Exit->Act->AA->Prop}(I:o.guard=none)(s x:Operand)
 (N:o.op=.call { callee:=.builtin .append,args:=#[s,x],argTypes:=#[27,27] })(A:Nat)(v:AB)(n:Nat)(l:List AB)(wr:AA)(cs:Array AB)(m:Nat)(L:cs.size=m)(F:∀u∈cs.toList,u.oneCell'=true)
 (O:a.eval s=v)(E:wr.ownsRow A 5 1 v n l)(g:Nat)(P:a.eval x=.slice g m m)(J:g=wr.heap.size)(K:n+m<=100000000)(H:A<=wr.heap.size)
 (h:∀v' B,B.ownsRow A 5 1 v' (n+m) (l++cs.toList)->Below A wr B->(∀g t C,AG wr g t C->5≠t->AG B g t C)->wpList prog ops Q rest (a.put o.dst v') B) :
 wpList prog ops Q (o::rest) a (wr.alloc (.cells cs 5)):=by
 subst J;have G:=(AN A wr).alloc H (.cells cs 5);refine JU I s x _ _ N underlying27 (.int .u8 0) 1 1 AD AD HH rfl A v n l _ O (E.alloc _) _ m cs.toList (by simp[L]) F P (lP _ _ _ _ _) K AM ?_;intro v' B R S T;exact h v' B R (G.trans S) (λg t C D M=>(D.alloc (.cells cs 5)).grown T ((D.alloc (.cells cs 5)).apart (E.alloc _) M))
structure K5(w X:AA)(A1 n:Nat)(D5:AB):Prop where
 blk:AG X A1 158 #[D5,(),AL]
 row:∃xs,X.ownsRow w 5 1 D5 n xs
 kept:AP [A1] w X
 lt:A1<w.heap.size
def K5.below{w A:AA}{B n:Nat}{C:AB}(h:K5 w A B n C)(hb:Below A A Y):K5 w Y B n C:=by
 obtain⟨E,D⟩:=h.row;exact⟨h.blk.below hb h.blk.lt,⟨E,Bl D (S:=[]) CX CE⟩,h.kept.trans CX,h.lt⟩
def K5.put{w D:AA}{B n m:Nat}{J v:AB}{G:List AB}(h:K5 w D B n J)(A:Below w D Y)(I:Y.ownsRow w 5 1 v m G):K5 w (Y.setCell ⟨B,0,none⟩ v) B m v:=by
 have hblk:=h.blk.below A h.lt;have C:AP [B] w Y:=⟨A.os.trans h.kept.os,A.tape.trans h.kept.tape,A.output.trans h.kept.output,Ap h.kept.size A.size,λF C H=>(A.block F C).trans (h.kept.block F C H)⟩;have E:AP [B] Y (Y.setCell ⟨B,0,none⟩ v):=(AP.refl _ _).setCell AH _;refine⟨hblk.put 0 v,⟨G,Bl I E (λL K hg hm=>?_)⟩,C.trans E,h.lt⟩;exact rS
def K5.far{w A:AA}{C n g:Nat}{F:AB}{cs:Array AB}(h:K5 w A C n F)(D:AG A g 97 cs)(hw:w.heap.size<=g)(i:Nat)(u:AB):K5 w (A.setCell ⟨g,i,none⟩ u) C n F:=by
 obtain⟨I,H⟩:=h.row;refine⟨h.blk.far (λB=>?_) u,⟨I,Bl H (S:=[g]) ((AP.refl _ _).setCell AH u) (λK J G E=>?_)⟩,h.kept.far hw u,h.lt⟩
 .have B:C=g:=B;subst B;exact absurd (h.blk.same D) AD
 .simp only[Aj,A',A_] at E;subst E;exact absurd (G.same D) AD
def AMh(A:Nat)(w:AA)(e:Ending)(B:AA):Prop:=∃C D c E,e=.returned ()/\AG B A 158 #[.slice C D c,(),E]/\AP [A] w B
def AGo(B:Nat)(w:AA)(D:Nat)(v:AB)(r:AE)(h:AG w D 158 #[AL,(),AL])(R:w.ownsRow B 5 1 v r.length (A3 r))(Ar:1<=r.length)(As:r.length<=400):
 AI 280 #[.pointer D,v] w (AMh D w):=by
 obtain⟨a,c,rfl⟩:=CV R;have x:Hid (∀L n u,K5 w L D n u->L.ownsRow B 5 1 (.slice a r.length c) r.length (A3 r)):=λL n u AU=>Bl R AU.kept (λAq Am AW Z=>by
  simp only[Aj,A',A_] at Z;subst Z;exact absurd (AW.same h) AD)
 have y:=O (Af.FI R);have Ax:Hid (K5 w w D 0 AL):=⟨h,⟨[],Ia _ _ _ _⟩,AP.refl _ _,h.lt⟩;obtain⟨F,G,H,E⟩:=h.y3;have Ao:((r.length:Int)==0)=false:=Aw.2 U;have Ap:=A4 400 r.length;have J:=h.frozen 0;go_in;go_upto_region 6 with fail;go_call XW w _ r w y.o AK U as e L ⟨rfl,hb⟩;replace Ax:=O (Ax.o.below hb);have Av:=hb.size;generalize (Da r:Int)=q at *;have P:=Ax.o.lt;obtain⟨F,G,H,E⟩:=Ax.o.blk.y3;have J:=Ax.o.blk.frozen 0;go_upto_region 7 with (at_builtin;go_loud (refine iV AZ _ _ AZ w _ 0 [] _ _ 2 AZ C2 rfl ⟨rfl,.inl ⟨rfl,rfl⟩⟩ _ AZ AH U U ?_);intro A2 AC Q T _;rw[DP] at Q;obtain⟨Ad,Ae,rfl⟩:=CG Q;have I:=Ax.o.blk.below T P;obtain⟨F,G,H,E⟩:=I.y3;have J:=I.frozen 0)
 replace Ax:=O (Ax.o.put T Q);generalize AC.setCell ⟨D,0,none⟩ (.slice Ad 2 Ae)=C at *;refine DB [14,15] [0,1,2,3,4,5,6,7,8,9,10,11,12,13,14,15] C AF AF rfl AD AF BK ?_;refine Ea ?_;have j:w.heap.size<=C.heap.size:=Ax.o.kept.size;replace Ax:=O Y6;have g:C.drew.heap.size=C.heap.size:=rfl;generalize C.drew=M at *;obtain⟨F,G,H,E⟩:=Ax.o.blk.y3;rw[g] at E;refine Cq ?_;intro K hK;refine hK _ _ _ AK ((AN _ _).alloc U _) ?_;have A:=AG.newAt M C 97 #[(),()] g.symm;have AV:=Ax.o.below ((AN _ M).alloc AK (.cells #[(),()] 97));have Au:C.heap.size<(M.alloc (.cells #[(),()] 97)).heap.size:=AM;generalize M.alloc (.cells #[(),()] 97)=AJ at *;refine J5 ?_;intro K hK;have At:=A.cell;have J:=A.frozen;go_simp;refine hK _ _ _ AK (((AN _ _).setCell (p:=⟨C,0,none⟩) AK _).setCell (p:=⟨C,1,none⟩) AK _) ?_;have Ax:=O ((AV.far A j 0 (.int .i64 2)).far (A.put 0 (.int .i64 2)) j 1 (.int .i64 (2+(r.length:Int))));replace A:=O ((A.put 0 (.int .i64 2)).put 1 (.int .i64 (2+(r.length:Int))));generalize (AJ.setCell ⟨C,0,none⟩ (.int .i64 2)).setCell ⟨C,1,none⟩ (.int .i64 (2+(r.length:Int)))=AO at *;generalize C.heap.size=Ag at *;refine Dl ?_;have Ab:w.heap.size<=AO.heap.size:=Ax.o.kept.size;obtain⟨Ah,N⟩:=Ax.o.row;obtain⟨F,G,H,E⟩:=Ax.o.blk.y3;have J:=Ax.o.blk.frozen 0;go_upto_region 9 with (at_builtin;go_loud (refine JU AZ _ _ 27 5 AZ underlying27 (.int .u8 0) 1 1 AD AD HH rfl w _ 2 Ah _ rfl (by exact N) _ r.length (A3 r) LA (KV r) rfl (Hv (x.o _ _ _ Ax.o)) U Ab ?_);intro A5 AQ d V AX;obtain⟨l,s,rfl⟩:=CG d;have I:=Ax.o.blk.below V P;obtain⟨F,G,H,E⟩:=I.y3;have J:=I.frozen 0)
 have i:Ag≠D:=U;replace A:=O ((A.o.grown AX (A.o.apart N AD)).far (p:=⟨D,0,none⟩) i (.slice l (2+r.length) s));replace Ax:=O (Ax.o.put V d);generalize AQ.setCell ⟨D,0,none⟩ (.slice l (2+r.length) s)=AR at *;have Ac:w.heap.size<=AR.heap.size:=Ax.o.kept.size;obtain⟨Ai,N⟩:=Ax.o.row;obtain⟨F,G,H,E⟩:=Ax.o.blk.y3;have J:=Ax.o.blk.frozen 0;go_upto_region 10 with (at_builtin;go_loud (refine iV AZ _ _ AZ w _ (2+r.length) Ai _ _ 4 AZ C2 rfl (by exact N) _ AZ AH U Ac ?_);intro A6 AS f W AY;obtain⟨o,t,rfl⟩:=CG f;have I:=Ax.o.blk.below W P;obtain⟨F,G,H,E⟩:=I.y3;have J:=I.frozen 0)
 replace A:=O ((AY _ _ _ A.o AD).far (p:=⟨D,0,none⟩) i (.slice o (2+r.length+4) t));replace Ax:=O (Ax.o.put W f);generalize AS.setCell ⟨D,0,none⟩ (.slice o (2+r.length+4) t)=AT at *;refine MB ([]) [6,7] [0,1,2,3,4,5,6,7] [8,9,10] (Fr 8 3) AF AF rfl AD AD AF AF AF BK ?_;refine Pn ?_;replace Ax:=O Y6;replace A:=O A.o.drew;generalize AT.drew=S at *;obtain⟨F,G,H,E⟩:=Ax.o.blk.y3;obtain⟨Ay,Az,A0⟩:=A.o.y2;iterate 6 refine H' ?_
 refine FU ?_;intro K hK;go_simp;refine hK _ _ N_ ?_;refine FU ?_;intro K hK;refine QF (.tmp 90) (.tmp 92) 94 rfl w 97 (.agg #[(),()]) 2 16 underlying94 Rl rfl AD AL 0 [] rfl ⟨rfl,.inl ⟨rfl,rfl⟩⟩ ⟨S,0,none⟩ 1 1 [.int .i64 2,.int .i64 (2+(r.length:Int))] rfl rfl (World.news_of_block (fr:=(0,0)) (Hf S _)) C2 Hr U (by have:=Ax.o.kept.size;simp;omega) ?_;intro A1 Ak Aa X _;obtain⟨Al,An,rfl⟩:=CG Aa;refine hK _ _ (NU X) ?_;refine KT ?_;replace Ax:=O (Ax.o.below ((NU (XB X)).below AK Uu));obtain⟨F,G,H,E⟩:=Ax.o.blk.y3;have J:=Ax.o.blk.frozen 2;go_wp2_with fail;go_ret;exact⟨_,_,_,_,rfl,Ax.o.blk.put 2 _,Ax.o.kept.setCell AH _⟩
end
section
attribute [local irreducible] Cu
def Jm(v:AB):Prop:=∃A B c,v=.slice A B c
structure JM(B:Nat)(X:AA)(s:Int)(b Ak BU am A1:Nat)(t1 t2 t3:AB):Prop where
 blk:AG X b 75 #[s,t1,t2,t3,.pointer Ak,.map (some am),.int .i64 (-1),.pointer A1]
 fd:AG X Ak 156 #[.map (some BU)]
 Jp:X.heap[BU]? = some (.map #[] 0)
 JD:X.heap[am]? = some (.map #[] 0)
 De:AG X A1 158 #[AL,(),AL]
 lo:B<=b/\B<=Ak/\B<=BU/\B<=am/\B<=A1
 ne:BU≠am
 ts:Jm t1/\Jm t2/\Jm t3
def cf{w X:AA}{k:Nat}{o:Obj}(A:w.heap[k]? = some o)(B:Below w w X):X.heap[k]? = some o:=(B.block k (E7.1 A).1).trans A
def JM.below{B:Nat}{w X:AA}{s:Int}{b Ak BU am A1:Nat}{t1 t2 t3:AB}(A:JM B w s b Ak BU am A1 t1 t2 t3)(C:Below w w X):JM B X s b Ak BU am A1 t1 t2 t3:=
 ⟨A.blk.below C A.blk.lt,A.fd.below C A.fd.lt,cf A.Jp C,cf A.JD C,A.De.below C A.De.lt,A.lo,A.ne,A.ts⟩
def Uy.bare{B:Nat}{w X:AA}{x:B6}{s:Int}{b Ak BU am A1:Nat}{t1 t2 t3:AB}(h:Uy B w X x s b Ak BU am A1 t1 t2 t3):JM w X s b Ak BU am A1 t1 t2 t3:=by
 obtain⟨A,C,D,E,F⟩:=h.lo;obtain⟨_,_,rfl,_⟩:=h.law.c1.slice;obtain⟨_,_,rfl,_⟩:=h.law.c2.slice;obtain⟨_,_,rfl,_⟩:=h.law.c3.slice;exact⟨h.blk,h.fd,h.Jp,h.JD,h.De,⟨U,U,U,U,U⟩,U,⟨_,_,_,rfl⟩,⟨_,_,_,rfl⟩,⟨_,_,_,rfl⟩⟩
def ANE(s:Int)(w:AA)(e:Ending)(A:AA):Prop:=∃b Ak BU am A1 t1 t2 t3,e=.returned (.pointer (some ⟨b,0,none⟩))/\JM w A s b Ak BU am A1 t1 t2 t3/\Below w w A
structure HO(w X:AA)(b Ak BU am A1:Nat)(s:Int)(t1 t2 t3 Ht vj:AB):Prop where
 blk:AG X w 75 #[s,t1,t2,t3,Ht,.map (some am),.int .i64 (-1),vj]
 old:X.cell? ⟨b,5,none⟩=some (.map (some am))/\b<w.heap.size
 JD:X.heap[am]? = some (.map #[] 0)/\am≠w.heap.size
 fd:AG X Ak 156 #[.map (some BU)]/\Ak≠w.heap.size
 Jp:X.heap[BU]? = some (.map #[] 0)/\BU≠w.heap.size
 De:AG X A1 158 #[AL,(),AL]/\A1≠w.heap.size
 AJ:Below w w X
section
variable {w X:AA} {b Ak BU am A1:Nat} {s:Int} {t1 t2 t3 Ht vj:AB}
def HO.set(h:HO w X b Ak BU am A1 s t1 t2 t3 Ht vj)(i:Nat)(u:AB){u1 u2 u3 C D:AB}(F:AG (X.setCell ⟨w,i,none⟩ u) w 75 #[s,u1,u2,u3,C,.map (some am),.int .i64 (-1),D]):HO w (X.setCell ⟨w,i,none⟩ u) b Ak BU am A1 s u1 u2 u3 C D:=by
 have B:∀A,A≠w.heap.size->(X.setCell ⟨w,i,none⟩ u).heap[A]? = X.heap[A]?:=λA G=>Lg X ⟨w,i,none⟩ u A G;refine⟨F,⟨?_,h.old.2⟩,⟨(B _ h.JD.2).trans h.JD.1,h.JD.2⟩,⟨h.fd.1.far h.fd.2 u,h.fd.2⟩,⟨(B _ h.Jp.2).trans h.Jp.1,h.Jp.2⟩,⟨h.De.1.far h.De.2 u,h.De.2⟩,h.AJ.setCell AK _⟩;have H:=h.old.2;have E:(X.setCell ⟨w,i,none⟩ u).cell? ⟨b,5,none⟩=X.cell? ⟨b,5,none⟩:=by
  have:=B b U;simp only[World.cell?,this]
 rw[E];exact h.old.1
def HO.AAD(A:HO w X b Ak BU am A1 s t1 t2 t3 Ht vj)(u:AB):HO w (X.setCell ⟨w,4,none⟩ u) b Ak BU am A1 s t1 t2 t3 u vj:=A.set 4 u (A.blk.put 4 u)
def HO.AAC(A:HO w X b Ak BU am A1 s t1 t2 t3 Ht vj)(u:AB):HO w (X.setCell ⟨w,7,none⟩ u) b Ak BU am A1 s t1 t2 t3 Ht u:=A.set 7 u (A.blk.put 7 u)
def HO.AAF(A:HO w X b Ak BU am A1 s t1 t2 t3 Ht vj)(u1 u2 u3:AB):HO w (((X.setCell ⟨w,1,none⟩ u1).setCell ⟨w,2,none⟩ u2).setCell ⟨w,3,none⟩ u3) b Ak BU am A1 s u1 u2 u3 Ht vj:=by
 have B:HO w (X.setCell ⟨w,1,none⟩ u1) b Ak BU am A1 s u1 t2 t3 Ht vj:=A.set 1 u1 (A.blk.put 1 u1);have C:HO w ((X.setCell ⟨w,1,none⟩ u1).setCell ⟨w,2,none⟩ u2) b Ak BU am A1 s u1 u2 t3 Ht vj:=B.set 2 u2 (B.blk.put 2 u2);exact C.set 3 u3 (C.blk.put 3 u3)
def HO.mapped(h:HO w X b Ak BU am A1 s t1 t2 t3 (.pointer Ak) (.pointer A1))(B:w.heap.size<=Ak/\w.heap.size<=BU/\w.heap.size<=A1)(K:Jm t1/\Jm t2/\Jm t3):
 JM w ((X.setCell ⟨w,5,none⟩ (.map (some X))).alloc (.map #[] 0)) s w Ak BU X A1 t1 t2 t3/\((X.setCell ⟨w,5,none⟩ (.map (some X))).alloc (.map #[] 0)).cell? ⟨b,5,none⟩=some (.map (some am))/\((X.setCell ⟨w,5,none⟩ (.map (some X))).alloc (.map #[] 0)).heap[am]? = some (.map #[] 0)/\Below w w ((X.setCell ⟨w,5,none⟩ (.map (some X))).alloc (.map #[] 0)):=by
 have F:∀A,A≠w.heap.size->(X.setCell ⟨w,5,none⟩ (.map (some X))).heap[A]? = X.heap[A]?:=λA C=>Lg X ⟨w,5,none⟩ _ A C;have E:(X.setCell ⟨w,5,none⟩ (.map (some X))).heap.size=X.heap.size:=AH;have I:=(E7.1 h.Jp.1).1;have G:=(E7.1 h.JD.1).1;have H:=h.blk.lt;have D:∀A,A<X.heap.size->A≠w.heap.size->((X.setCell ⟨w,5,none⟩ (.map (some X))).alloc (.map #[] 0)).heap[A]? = X.heap[A]?:=λA C J=>(GI _ _ A (by rw[E];exact C)).trans (F A J);refine⟨⟨(h.blk.put 5 (.map (some X))).alloc _,(h.fd.1.far h.fd.2 _).alloc _,(D _ I h.Jp.2).trans h.Jp.1,?_,(h.De.1.far h.De.2 _).alloc _,⟨Bh _,B.1,B.2.1,I3 H,B.2.2⟩,U,K⟩,?_,(D _ G h.JD.2).trans h.JD.1,(h.AJ.setCell AK _).alloc (by rw[E];omega) _⟩
 .have:=Hf (X.setCell ⟨w,5,none⟩ (.map (some X))) (.map #[] 0);rw[E] at this;exact D2
 .have L:=h.old.2;have:=D b U U;rw[show((X.setCell ⟨w,5,none⟩ (.map (some X))).alloc (.map #[] 0)).cell? ⟨b,5,none⟩=X.cell? ⟨b,5,none⟩ by simp only[World.cell?,this]];exact h.old.1
end
def AAE{B g:Nat}{w W:AA}(C:Below B w W)(A:B<=g)(x y z:AB):Below B w (((W.setCell ⟨g,1,none⟩ x).setCell ⟨g,2,none⟩ y).setCell ⟨g,3,none⟩ z):=
 ((C.setCell (p:=⟨g,1,none⟩) A x).setCell (p:=⟨g,2,none⟩) A y).setCell (p:=⟨g,3,none⟩) A z
def AG7(B H:Nat)(w:AA)(x:B6)(s:Int)(b Ak BU am A1:Nat)(t1 t2 t3:AB)(h:JM B w s b Ak BU am A1 t1 t2 t3)(T:CP H w x t1 t2 t3)(A0:H<=w.heap.size)(Ab:Ho x):
 AI 139 #[.pointer b] w (ANE s w):=by
 have Ag:=O h;have A2:=O T;have AP:=O Ab;obtain⟨J,N,rfl,_⟩:=T.c1.slice;obtain⟨L,P,rfl,_⟩:=T.c2.slice;obtain⟨M,Q,rfl,_⟩:=T.c3.slice;obtain⟨j,l,m,n,o,r,t,u,AY⟩:=h.blk.BF;have A4:b<w.heap.size:=AY;have A3:am≠w.heap.size:=by have:=(E7.1 h.JD).1;omega
 clear h T Ab;go_in;go_upto_region 4 with fail;have R:Below w w (w.alloc (.cells #[s,.slice J x.Ao.length N,.slice L x.Bc.length P,.slice M x.rat.length Q,.pointer Ak,.map (some am),.int .i64 (-1),.pointer A1] 75)):=(AN _ _).alloc AK _;have I:=O (AG.new w 75 #[s,.slice J x.Ao.length N,.slice L x.Bc.length P,.slice M x.rat.length Q,.pointer Ak,.map (some am),.int .i64 (-1),.pointer A1]);replace Ag:=O (Ag.o.below R);replace A2:=O (A2.o.below R);have F:=O R;have d:H<=(w.alloc (.cells #[s,.slice J x.Ao.length N,.slice L x.Bc.length P,.slice M x.rat.length Q,.pointer Ak,.map (some am),.int .i64 (-1),.pointer A1] 75)).heap.size:=Ap A0 R.size;clear R j l m n o r t u AY;generalize w.alloc (.cells #[s,.slice J x.Ao.length N,.slice L x.Bc.length P,.slice M x.rat.length Q,.pointer Ak,.map (some am),.int .i64 (-1),.pointer A1] 75)=AU at *;refine DB [4,9,14,16,18,20] [0,1,2,3,5,6,7,8,10,11,12,13,4,9,14,15,16,17,18,19,20] w AF AF rfl AD AF BK ?_;refine Ea ?_;replace I:=O I.o.drew;replace Ag:=O Ys;replace A2:=O fh;replace F:=O F.o.drew;replace d:H<=AU.drew.heap.size:=d;generalize AU.drew=X at *;obtain⟨j,l,m,n,o,r,t,u,Ay⟩:=Ag.o.blk.BF;repeat refine DD ?_
 clear j l m n o r t u Ay;have Ae:=I.o.lt;refine HK ?_;intro K hK;go_at_call 19;refine(lC H x _ _ _ _ d A2.o AP.o).mono ?_;rintro c A ⟨BE,BF,BG,rfl,g,S⟩;refine hK _ _ w AK (S.mono U) ?_;clear hK K;obtain⟨Al,Ao,rfl,_⟩:=g.c1.slice;obtain⟨Am,Aq,rfl,_⟩:=g.c2.slice;obtain⟨An,Ar,rfl,_⟩:=g.c3.slice;have Z:=Ag.o.below S;have Af:=S.size;clear g;refine Cq ?_;intro K hK;go_at_call 80;refine(nU Z.fd Z.Jp).mono ?_;rintro c a ⟨rfl,V⟩;have f:Below A A a:=by rw[V];exact((AN _ _).alloc AK _).alloc AH _
 have AE:AG a (A.heap.size+1) 156 #[.map (some A)]:=by rw[V];exact AG.newAt _ _ _ _ AH
 have AR:a.heap[A.heap.size]? = some (.map #[] 0):=by rw[V];exact(GI _ _ _ AH).trans (Hf _ _)
 have A':a.heap.size=A.heap.size+2:=by rw[V];simp
 refine hK _ _ w AK (f.mono U) ?_;clear hK K V;have AO:=Z.below f;refine Cq ?_;intro K hK;go_at_call 193;refine(AGn AO.De).mono ?_;rintro c AV ⟨W,rfl,AQ,A9,G⟩;have AJ:=AE.below G U;have AS:=cf AR G;have BA:=G.size;refine hK _ _ w AK (G.mono U) ?_;clear hK K;have e:=S.trans ((f.trans (G.mono U)).mono Af);have AT:=I.o.below e Ae;have i:=Ag.o.below e;replace F:=O (F.o.trans (e.mono U));have Ah:A.heap.size+1≠w.heap.size:=U;have Ai:A.heap.size≠w.heap.size:=U;have Aj:W≠w.heap.size:=U;have A5:w.heap.size<=A.heap.size:=U;have A6:w.heap.size<=W:=U;have A7:w.heap.size<=A.heap.size+1:=U;have Y:Hid (HO w AV b (A.heap.size+1) A am W s (.slice J x.Ao.length N) (.slice L x.Bc.length P) (.slice M x.rat.length Q) (.pointer Ak) (.pointer A1)):=
  ⟨AT,⟨i.blk.cell 5,A4⟩,⟨i.JD,A3⟩,⟨AJ,Ah⟩,⟨AS,Ai⟩,⟨AQ,Aj⟩,F.o⟩
 clear S f G e Z AO Ag i AT AJ AS AQ Ah Ai Aj F AE AR I Ae Af A' BA A9 d A2 AP;generalize A.heap.size+1=AZ at *;generalize A.heap.size=BD at *;repeat refine DD ?_
 have D:=Y.o.blk.cell;have E:=Y.o.blk.frozen;refine HK ?_;intro K hK;refine hK _ _ w AK (AAE DL AK _ _ _) ?_;clear hK K D E;have C:=Y.o.AAF (.slice Al x.Ao.length Ao) (.slice Am x.Bc.length Aq) (.slice An x.rat.length Ar);generalize ((AV.setCell ⟨w,1,none⟩ (.slice Al x.Ao.length Ao)).setCell ⟨w,2,none⟩ (.slice Am x.Bc.length Aq)).setCell ⟨w,3,none⟩ (.slice An x.rat.length Ar)=Aw at *;clear Y;repeat refine DD ?_
 refine J5 ?_;intro K hK;have D:=C.blk.cell;have E:=C.blk.frozen;go_simp;refine hK _ _ w AK ((AN _ _).setCell (p:=⟨w,4,none⟩) AK _) ?_;clear hK K D E;replace C:=C.AAD (.pointer AZ);generalize Aw.setCell ⟨w,4,none⟩ (.pointer AZ)=Ax at *;repeat refine DD ?_
 refine J5 ?_;intro K hK;have D:=C.blk.cell;have E:=C.blk.frozen;go_simp;refine hK _ _ w AK ((AN _ _).setCell (p:=⟨w,7,none⟩) AK _) ?_;clear hK K D E;replace C:=C.AAC (.pointer W);generalize Ax.setCell ⟨w,7,none⟩ (.pointer W)=AW at *;refine Dl ?_;have D:=C.blk.cell;have E:=C.blk.frozen;have AC:=C.blk.lt;have A_:=@run_makeMap prog;go_upto_region 6 with fail;have Au:=C.mapped ⟨A7,A5,A6⟩ ⟨⟨_,_,_,rfl⟩,⟨_,_,_,rfl⟩,⟨_,_,_,rfl⟩⟩;clear D E AC C A_;generalize AW.heap.size=BB at *;generalize (AW.setCell ⟨w,5,none⟩ (.map (some BB))).alloc (.map #[] 0)=AX at *;obtain⟨Aa,Az,Ac,y⟩:=Au;have AM:=O Aa;have AL:=O y;have Ad:=y.size;have AC:b<AX.heap.size:=U;clear Aa y;go_wp2_with (first
  | (go_at_call 195;refine(AK' _ _).mono ?_;rintro c BH ⟨rfl,rfl⟩)
  | (go_at_call 194;refine(AKr am AX Ac).mono ?_;rintro c Av ⟨rfl,v⟩))
 have At:=O (AM.o.below v);have As:=O (AL.o.trans (v.mono Ad));clear AM AL v Ac Az AC Ad;go_loopw [38] (λBC wr=>BC=.int .i64 0/\wr=Av) (λ_ _=>0)
 case atStart=>exact⟨rfl,rfl⟩
 case round=>
  obtain⟨rfl,rfl⟩:=hrel;go_wp2_with fail;go_ret;exact⟨_,_,_,_,_,_,_,_,rfl,At.o,As.o⟩
end
section
variable{w':AA}
attribute [local irreducible] Cu
def JM.start{B:Nat}{A:AA}{s:Int}{b D E C F:Nat}{G H I:AB}(h:JM B A s b D E C F G H I):Cr B A b s Eh (cR D E C F G H I):=by
 obtain⟨K,L,M,N,O⟩:=h.lo;exact⟨h.blk,⟨h.fd,xT,λQ J=>by cases J⟩,⟨xa,R1,(λp _=>rfl),⟨N,R1⟩,(λp P hp=>by cases hp),R1⟩,⟨K,L,M⟩,h.ne⟩
def Cr.mb{B:Nat}{w:AA}{M G:Nat}{s:Int}{i:Ins}{g:Cs}{cs:Array AB}(h:Cr B w M s i g)(J:AP [G] w w')(L:AG w G 158 cs):Cr B w' M s i g:=by
 have F:∀A E K,AG w A E K->E≠158->A∉[G]:=λA E K D ht C=>by
  simp only[Aj,A',A_] at C;subst C;exact ht (D.same L)
 have I:∀H,(∃O N,w.heap[H]? = some (.map O N))->H∉[G]:=λH P C=>by
  simp only[Aj,A',A_] at C;exact L.IR P C.symm
 exact⟨h.blk.kept J (F _ _ _ h.blk AD),h.fd.kept J (F _ _ _ h.fd.blk AD) (I _ h.fd.map.isMap) (λA cs D=>F _ _ _ D AD),h.CK.kept J (λA E cs D ht=>F A E cs D Zx) (I _ h.CK.map.isMap) (λp Q=>I _ (h.CK.acc p Q).map.isMap),h.lo,h.fa⟩
def AEX{B:Nat}{w:AA}{e k n:Nat}{v:AB}{C:List AB}(F:w.ownsRow B e k v n C)(J:∀q cs,AG w q e cs->AG w' q e cs):w'.ownsRow B e k v n C:=by
 obtain⟨G,A⟩:=F;refine⟨G,?_⟩;rcases A with A|⟨E,D,cur,K,H,I,L⟩
 .exact .inl A
 .exact .inr ⟨E,D,cur,K,H,J _ _ I,L⟩
structure vo(B:Nat)(w:AA)(b A1:Nat)(s:Int)(g:Cs):Prop where
 ins:Cr B w b s Id g
 AHg:g.A1=A1
 gc:g.c<=1
 ts:Jm g.t1/\Jm g.t2/\Jm g.t3
 De:∃a n c v,AG w A1 158 #[.slice a n c,(),v]
def ANW(B:Nat)(b E:Nat)(s:Int)(w:AA)(e:Ending)(w':AA):Prop:=∃D,e=.returned ()/\vo B w' b E s D/\Below B w w'/\∀C A,AG w C 5 A->AG w' C 5 A
def AIV(B Q:Nat)(w:AA)(s:Int)(b y z l H:Nat)(AS AT AU v:AB)(h:JM B w s b y z l H AS AT AU)(K:B<=w.heap.size)(P:w.ownsRow Q 5 1 v (1::DH).length (A3 (1::DH))):
 AI 199 #[.pointer b,v] w (ANW B b H s w):=by
 have Y:(1::DH).length<=59/\1<=(1::DH).length:=by rw[CB,dx];have:=Xg;omega
 have I:=O h.De;have j:=O h.start;have g:=O P;have f:=O (Af.FI P);have d:=O AKq;have e:Hid ((1::DH).head? = some 1):=rfl;obtain⟨m,n,o,q,r,t,u,W,x⟩:=h.blk.BF;have AQ:=h.lo.2.2.2.2;have AR:=h.ts;obtain⟨Ad,Ae,rfl⟩:=CV P;generalize 1::DH=a at *;go_in;go_wp2_with (go_at_call 279;refine(AGm I.o).mono ?_;rintro X w' ⟨rfl,rfl⟩)
 refine(nA B w b s Eh _ 0 _ a j.o K IA.zero U J_ J_ f.o Y.2 U).mono ?_;intro X V N;unfold K7 at N;rw[d.o] at N;obtain⟨rfl,C,AJ,AZ,AL,hw,AO⟩:=N;have S:=O AJ;have AK:=hw.AJ K;obtain⟨G,AE,AF,AH⟩:=AO e.o;have k:Hid (Jm C.t1/\Jm C.t2/\Jm C.t3):=by
  rw[AE,AF,AH];exact AR
 replace G:C.A1=H:=G;obtain⟨AV,D,AY,L⟩:=hw;have J:=O (I.o.kept D (L _ _ _ I.o VC));have i:=O (Bl g.o D (λAC A AN=>L AC _ A AN VC));have R:=O AK;have T:Hid (∀F A,AG w F 5 A->AG V F 5 A):=λF A E=>E.kept D (L _ _ _ E VC);have AM:C.c<=1:=AL;obtain⟨m,n,o,q,r,t,u,W,x⟩:=S.o.blk.BF;rw[G] at W;go_wp2_with (go_at_call 280;refine(AGo Q V H _ a J.o i.o Y.2 U).mono ?_;rintro X AW ⟨AX,Ab,c,Ac,rfl,AP,M⟩)
 go_ret;exact⟨C,rfl,⟨S.o.mb M J.o,G,AM,k.o,_,_,_,_,AP⟩,R.o.trans (M.below (Ap K R.o.size) (λAa D=>by
  simp only[Aj,A',A_] at D;subst D;exact AQ)),λF A E=>(T.o F A E).kept M (λZ=>by
  simp only[Aj,A',A_] at Z;subst Z;exact absurd ((T.o _ _ E).same J.o) AD)⟩
end
section
attribute [local irreducible] Cu
def AGT(s:Int):Gg [] s=0:=by unfold Gg Hb;rw[Nu (by simp[EK,Bo])];rfl
def AMq(B:Nat)(b E:Nat)(w:AA)(e:Ending)(A:AA):Prop:=∃D C,e=.returned (.tuple #[C,()])/\A.ownsRow w 5 1 C DH.length (A3 DH)/\vo B A b E 1 D/\Below B w A
def AGz(B n:Nat)(w:AA)(b G H d V:Nat)(j l m v:AB)(h:JM B w 1 b G H d V j l m)(e:B<=w.heap.size)(i:w.ownsRow n 5 1 v E2.length (A3 E2)):
 AI 140 #[.pointer b,.int .i64 1,v] w (AMq B b V w):=by
 have Ab:=Xg;have s:=O dx;have Ag:=O h;have C:=O i;have Y:=O AKo;obtain⟨J,L,M,N,P,Q,R,S,AR⟩:=h.blk.BF;obtain⟨W,X,rfl⟩:=CV i;go_in;go_upto_region 1 with fail;refine DB [8] [0,1,2,3,4,5,6,7,8,9,10] w AF AF rfl AD AF BK ?_;refine Hm ?_;have hd:=(AN w w).drew;replace Ag:=O Yo;replace C:=O (Bl C.o (S:=[]) fi CE);have A:=O hd;have AJ:w.drew.heap.size=w.heap.size:=rfl;generalize w.drew=u at *;obtain⟨J,L,M,N,P,Q,R,S,_⟩:=Ag.o.blk.BF;refine Cq ?_;intro K hK;go_at_call 28;go_call bG u G H [] _ _ 1 Ag.o.start.fd Y9 P5 as F X1 ⟨rfl,hb1⟩;rw[AGT];refine hK _ _ _ AK (hb1.mono U) ?_;refine HM ?_;replace Ag:=O (Ag.o.below hb1);replace C:=O (Bl C.o (S:=[]) ff CE);replace A:=O (AW A.o hb1);obtain⟨J,L,M,N,P,Q,R,S,AS⟩:=Ag.o.blk.BF;go_upto_region 5 with fail;have hd:=(AN X1 X1).alloc AK (.cells #[.int .i64 1,.int .i64 1,.int .i64 1,.int .u32 0,.slice W E2.length X] 108);replace Ag:=O Yo;replace C:=O (Bl C.o (S:=[]) fi CE);replace A:=O (AW A.o hd);have I:=O (AG.new X1 108 #[.int .i64 1,.int .i64 1,.int .i64 1,.int .u32 0,.slice W E2.length X]);generalize X1.alloc (.cells #[.int .i64 1,.int .i64 1,.int .i64 1,.int .u32 0,.slice W E2.length X] 108)=D at *;generalize X1.heap.size=Aa at *;refine DB [10] [0,1,2,3,4,5,6,7,8,9,10,11,12,13,14,15] D AF AF rfl AD AF BK ?_;refine Hm ?_;have hd:=(AN D D).drew;replace Ag:=O Yo;replace C:=O (Bl C.o (S:=[]) fi CE);replace A:=O (AW A.o hd);replace I:=O I.o.drew;have AJ:D.drew.heap.size=D.heap.size:=rfl;have AT:b<D.heap.size:=Ag.o.blk.lt;generalize D.drew=Z at *;obtain⟨J,L,M,N,P,Q,R,S,_⟩:=Ag.o.blk.BF;refine Cq ?_;intro K hK;go_at_call 197;go_call AET Z G H [] _ _ 1 0 Ag.o.start.fd P5 P5 rfl as F w' ⟨rfl,rfl⟩;refine JG ?_;refine HM ?_;obtain⟨AU,AV,AX,AY,AZ,dl⟩:=I.o.DY;have AM:=A.o.size;go_wp2_with fail;refine(AIM 1 1 1 0 _ E2 Z (Af.FI C.o) (λc h=>by injection h with _ h2 _;omega) U U U).mono ?_;rintro F y ⟨Ac,rfl,T,f⟩;rw[Y.o.1];rw[Y.o.2] at T;replace Ag:=O (Ag.o.below f);replace A:=O (AW A.o f);have E:=O (F_ T AM);obtain⟨Ad,Ae,rfl⟩:=CV T;go_wp2_with fail;refine(AIS w _ DH y E.o (by rw[s.o];omega)).mono ?_;rintro F a ⟨AO,rfl,AH,IW⟩;replace Ag:=O (Ag.o.below IW);replace E:=O (Bl E.o (S:=[]) R9 CE);replace A:=O (AW A.o IW);have C:=O AH;have AC:B<=a.heap.size:=Ap e A.o.size;go_wp2_with fail;go_call AIV B _ a 1 b G H d V j l m AO Ag.o AC C.o as F AQ ⟨g,rfl,hI,AE,AL⟩;have t:=O (AEX E.o AL);have o:=O ((A.o.mono e).trans AE);have r:=O hI;go_wp2_with fail;go_ret2;exact⟨g,_,rfl,t.o,r.o,o.o⟩
end
def AJI{w:AA}{b A n c:Nat}{E F G H I J K L:AB}{f:Int}{a:BH}(D:AG w b 75 #[E,F,G,H,I,J,K,.pointer A])(h:AG w A 158 #[.slice a n c,f,L]):
 AI 141 #[.pointer b] w λe B=>e=.returned (.tuple #[])/\B=w.setCell ⟨A,1,none⟩ n:=by
 have C:=O (AHt h);obtain⟨M,N,P,Q,R,S,T,U,V⟩:=D.BF;go_in;go_wp2_with (go_at_call 201;refine C.o.mono ?_;rintro e B ⟨rfl,rfl⟩)
 exact Lh (v:=.tuple #[]) (by simp[results,results141]) rfl ⟨rfl,rfl⟩
def AAB{B g:Nat}{w W:AA}(K:Below B w W)(A:B<=g)(C D E F G H I J:AB):Below B w ((((((((W.setCell ⟨g,0,none⟩ C).setCell ⟨g,1,none⟩ D).setCell ⟨g,2,none⟩ E).setCell ⟨g,3,none⟩ F).setCell ⟨g,4,none⟩ G).setCell ⟨g,5,none⟩ H).setCell ⟨g,6,none⟩ I).setCell ⟨g,7,none⟩ J):=
 (((((((K.setCell (p:=⟨g,0,none⟩) A C).setCell (p:=⟨g,1,none⟩) A D).setCell (p:=⟨g,2,none⟩) A E).setCell (p:=⟨g,3,none⟩) A F).setCell (p:=⟨g,4,none⟩) A G).setCell (p:=⟨g,5,none⟩) A H).setCell (p:=⟨g,6,none⟩) A I).setCell (p:=⟨g,7,none⟩) A J
def mc{b:Nat}{a c:AA}(h:AP [b] a c)(i:Nat)(u:AB):AP [b] a (c.setCell ⟨b,i,none⟩ u):=h.setCell AH u
def Cr.copy{K B:Nat}{w:AA}{R b:Nat}{s:Int}{i:Ins}{g:Cs}{S T U V W X Y Z:AB}(h:Cr K w R s i g)(J:AG w b 75 #[S,T,U,V,W,X,Y,Z])(O:B<=b/\B<=K):
 Cr B ((((((((w.setCell ⟨b,0,none⟩ s).setCell ⟨b,1,none⟩ g.t1).setCell ⟨b,2,none⟩ g.t2).setCell ⟨b,3,none⟩ g.t3).setCell ⟨b,4,none⟩ (.pointer g.Ak)).setCell ⟨b,5,none⟩ (.map (some g.am))).setCell ⟨b,6,none⟩ i.last).setCell ⟨b,7,none⟩ (.pointer g.A1)) b s i g:=by
 have Q:AP [b] w ((((((((w.setCell ⟨b,0,none⟩ s).setCell ⟨b,1,none⟩ g.t1).setCell ⟨b,2,none⟩ g.t2).setCell ⟨b,3,none⟩ g.t3).setCell ⟨b,4,none⟩ (.pointer g.Ak)).setCell ⟨b,5,none⟩ (.map (some g.am))).setCell ⟨b,6,none⟩ i.last).setCell ⟨b,7,none⟩ (.pointer g.A1)):=by
  exact pl
 have e:AG ((((((((w.setCell ⟨b,0,none⟩ s).setCell ⟨b,1,none⟩ g.t1).setCell ⟨b,2,none⟩ g.t2).setCell ⟨b,3,none⟩ g.t3).setCell ⟨b,4,none⟩ (.pointer g.Ak)).setCell ⟨b,5,none⟩ (.map (some g.am))).setCell ⟨b,6,none⟩ i.last).setCell ⟨b,7,none⟩ (.pointer g.A1)) b 75 (Wo s i g):=by
  have N:=(((((((J.put 0 s).put 1 g.t1).put 2 g.t2).put 3 g.t3).put 4 (.pointer g.Ak)).put 5 (.map (some g.am))).put 6 i.last).put 7 (.pointer g.A1);simp only[RE,PO,PN] at N;exact N
 have I:∀A F M,AG w A F M->F≠75->A∉[b]:=λA F M E ht D=>by
  simp only[Aj,A',A_] at D;subst D;exact ht (E.same J)
 have H:∀G,(∃c a,w.heap[G]? = some (.map c a))->G∉[b]:=λG d D=>by
  simp only[Aj,A',A_] at D;exact J.IR d D.symm
 have C:=h.CK.kept Q (λA F L E ht=>I A F L E Zx) (H _ h.CK.map.isMap) (λp f=>H _ (h.CK.acc p f).map.isMap);have P:=(h.lower O.2);exact⟨e,h.fd.kept Q (I _ _ _ h.fd.blk AD) (H _ h.fd.map.isMap) (λA L E=>I _ _ _ E AD),⟨C.map,C.acc,C.no,P.CK.lo,C.ap,C.mm⟩,⟨O.1,P.lo.2⟩,h.fa⟩
def iN(B:Nat)(b:Nat)(w:AA)(e:Ending)(A:AA):Prop:=∃C D,e=.returned (.tuple #[D,()])/\A.ownsRow w 5 1 D DH.length (A3 DH)/\Cr B A b 1 Id C/\C.c<=1/\Below B w A
def AKw(B I Q:Nat)(w:AA)(x:B6)(b V W R k:Nat)(M N P v:AB)(h:JM B w 1 b V W R k M N P)(AO:CP I w x M N P)(AH:I<=w.heap.size)(AN:Ho x)(X:B<=w.heap.size)(i:w.ownsRow Q 5 1 v E2.length (A3 E2)):
 AI 78 #[.pointer b,.int .i64 1,v] w (iN B b w):=by
 have H:=O h;have t:=O AO;have J:=O i;have s:=O AN;obtain⟨Aw,Ax,rfl⟩:=CV i;have AK:b<w.heap.size:=h.blk.lt;have Y:=h.lo.1;go_in;go_wp2_with fail;go_call AG7 B I w x 1 b V W R k M N P H.o t.o AH s.o as C X1 ⟨b',AC,AE,y,A,u1,u2,u3,rfl,hE,hb1⟩;have l:=O hb1;have r:=O hE;replace H:=O (H.o.below hb1);replace J:=O (Bl J.o (S:=[]) ff CE);have j:=hb1.size;have AM:=hE.lo.2.2.2.2;go_wp2_with fail;go_call AGz w Q X1 b' AC AE y A u1 u2 u3 _ r.o j J.o as C X2 ⟨g,v2,rfl,f,hD,hb2⟩;obtain⟨AW,G,Ag,Av,D⟩:=hD.De;have c:=hD.AHg;obtain⟨⟨Ap,Am,As,S⟩,⟨Aq,An,At,T⟩,⟨Ar,Ao,Au,U⟩⟩:=hD.ts;have AT:=O hD.ins;have K:AG X2 b' 75 #[.int .i64 1,g.t1,g.t2,g.t3,.pointer g.Ak,.map (some g.am),Id.last,.pointer A]:=by rw[<-c];exact hD.ins.blk
 have AU:=O f;have o:=O (AJI K D);have d:AP [A] X2 (X2.setCell ⟨A,1,none⟩ G):=mc OB _ _;have AJ:=hD.ins.mb d D;have AQ:b'≠A:=λC=>by subst C;exact absurd (K.same D) AD
 have Z:=H.o.blk.below hb2 AK;have AR:b≠A:=λC=>by subst C;exact absurd (Z.same D) AD
 have e:=K.far (p:=⟨A,1,none⟩) AQ G;have F:=Z.far (p:=⟨A,1,none⟩) AR G;rw[S,T,U] at e;have a:=AJ.copy F ⟨Y,X⟩;rw[S,T,U,c] at a;have q:=O a;have AF:Below w X1 (X2.setCell ⟨A,1,none⟩ G):=hb2.setCell (p:=⟨A,1,none⟩) AM _;have AL:=O hD.gc;have u:=O (Bl f d (λAS z L E=>by
  simp only[Aj,A',A_] at E;subst E;exact absurd (L.same D) AD))
 have n:=O (l.o.trans AF);generalize X2.setCell ⟨A,1,none⟩ G=AV at *;obtain⟨AX,AY,AZ,Aa,Ab,Ac,Ad,Ae,Af⟩:=e.BF;have Ah:=F.cell;have Ai:=F.frozen;have Ak:=F.lt;have m:=O F;generalize Id.last=Al at *;go_wp2_with (go_at_call 141;refine o.o.mono ?_;rintro C Ay ⟨rfl,rfl⟩)
 go_ret2;refine⟨g,v2,rfl,F_ (Bl u.o (S:=[b]) ?_ (λAS z L E=>?_)) j,q.o,AL.o,AAB (n.o.mono X) Y _ _ _ _ _ _ _ _⟩
 .exact pl
 .simp only[Aj,A',A_] at E;subst E;exact absurd (L.same m.o) AD
section
variable{w':AA}
def KB(w:AA)(n:Nat)(B:List AB)(e:Ending)(w':AA):Prop:=∃A,e=.returned A/\w'.ownsRow w 105 14 A n B/\Below w w w'
def FV.next{w:AA}{y:AB}{m:Nat}{B:List AB}(A:FV w y m B)(hw:∀a u,w.cell? a=some u->w'.cell? a=some u):FV w' y m B:=by
 rcases A with A|⟨C,c,rfl,D⟩
 .exact .inl A
 .exact .inr ⟨C,c,rfl,λF u E=>hw _ _ (D F u E)⟩
def AKD{w:AA}(C:Below w w w')(a:Addr)(u:AB)(B:w.cell? a=some u):w'.cell? a=some u:=by
 have D:a.block<w.heap.size:=by
  rcases Fg a.block w with A|A
  .exact A
  .have:w.heap[a.block]? = none:=Kl A;simp[World.cell?,this] at B
 rw[C.cell D];exact B
def bx(w:AA)(pa pb:BH)(HX Et ca cb:Nat)(f g:AB)(QD SS:List AB)(ha:FV w (.slice pa HX ca) HX QD)(B:FV w (.slice pb Et cb) Et SS)(la:QD.length=HX*14)(lb:SS.length=Et*14)(TM:∀u∈QD,u.oneCell'=true)(ob:∀u∈SS,u.oneCell'=true)(h0:HX=0\/Et=0)(D:HX+Et<=1000):
 AI 146 #[.slice pa HX ca,.slice pb Et cb,f,g] w (KB w (HX+Et) (QD++SS)):=by
 have ZR:=O ha;have AC:=O B;by_cases h1:HX=0
 .have A:decide (0<HX)=false:=DI (p:=0<HX) U;exact t_
 .have A:decide (0<HX)=true:=CA (p:=0<HX) U;have C:decide (0<Et)=false:=DI (p:=0<Et) U;exact t_
def pR(w:AA):AI 147 #[AL] w λe w'=>e=.returned AL/\w=w':=by
 go_in;go_wp2_with fail;go_loopw [3,8] (λo A wr=>o=.slice none 0 0/\A=.int .i64 0/\wr=w) (λ_ _ _=>0)
 case atStart=>exact⟨rfl,rfl,rfl⟩
 case round=>
  obtain⟨rfl,rfl,rfl⟩:=hrel;go_wp2_with fail;exact H7
def AKs(w:AA)(g c:Nat)(A:∀(j:Nat) (u:AB),(BP Dp).toList[j]? = some u->w.cell? ⟨g,j,none⟩=some u)(s:g<w.heap.size):
 AI 147 #[.slice g 1 c] w (KB w 1 (BP Dp).toList):=by
 have m:=O A;have C:=QK 1 1 1 false 3 13 0 5 9 0 0 0 0 0;simp only[show BY ⟨1,1,1,false,3,13,0,5,9,0,0,0,0,0⟩=true from PX] at C;have n:=O C;clear C;have N:=A 0 _ rfl;have P:=A 1 _ rfl;have V:=A 2 _ rfl;have W:=A 3 _ rfl;have X:=A 4 _ rfl;have Y:=A 5 _ rfl;have Z:=A 6 _ rfl;have a:=A 7 _ rfl;have b:=A 8 _ rfl;have d:=A 9 _ rfl;have Q:=A 10 _ rfl;have R:=A 11 _ rfl;have S:=A 12 _ rfl;have T:=A 13 _ rfl;simp only[Dp] at N P V W X Y Z a b d Q R S T;clear A;go_in;go_wp2_with fail;go_loopw [3,8] (λo G wr=>(o=.slice none 0 0/\G=.int .i64 0/\wr=w)\/(G=.int .i64 1/\KB w 1 (BP Dp).toList (.returned o) wr)) (λ_ G _=>2-(intOf G).toNat)
 case atStart=>exact .inl ⟨rfl,rfl,rfl⟩
 case round=>
  rcases hrel with ⟨rfl,rfl,rfl⟩|⟨rfl,t⟩
  .go_wp2_with fail;refine(n.o _).mono ?_;rintro r F ⟨rfl,B⟩;have k:=(AN wr wr).alloc AK (.cells (BP Dp) 105);have I:=(AG.new wr 105 (BP Dp)).below B AH;have D:=O (AW k B);have i:wr.heap.size<=F.heap.size:=D.o.size;have J:=I.cell;have l:=I.lt;simp only[BP,Dp] at J;clear k I B N P V W X Y Z a b d Q R S T m;obtain⟨M,K⟩:∃M,M=wr.heap.size:=⟨_,rfl⟩;rw[<-K] at s D i J l ⊢;have e:=O K;clear K;go_wp2_with fail;refine(bx _ none (some ⟨F,0,none⟩) 0 1 0 1 _ _ [] (BP Dp).toList (.inl ⟨rfl,rfl⟩) (lP F 105 (BP Dp) 1 1) rfl rfl Pq (lg Dp) (.inl rfl) U).mono ?_;rintro r q ⟨L,rfl,E,B⟩;have f:KB wr 1 (BP Dp).toList (.returned L) q:=⟨L,rfl,F_ E (by rw[<-e.o];simp;omega),by rw[<-e.o];exact D.o.trans (((AN M F).alloc i _).trans (B.mono AM))⟩;have H:=O f;clear f E B J l;go_wp2_with fail;go_roundw
   case rel=>exact .inr ⟨rfl,H.o⟩
   case measure=>simp[intOf]
  .obtain⟨L,C,E,B⟩:=t;injection C with C;subst C;have H:=O E;have D:=O B;clear E B N P V W X Y Z a b d Q R S T;go_wp2_with fail;go_ret;exact⟨_,rfl,H.o,D.o⟩
end
def AFk(w:AA):AI 82 #[AL,AL] w (KB w 0 []):=by
 go_in;go_wp2_with (first
  | (go_at_call 147;refine(pR _).mono ?_;rintro A F ⟨rfl,rfl⟩)
  | (go_at_call 146;refine(bx _ none none 0 0 0 0 _ _ [] [] (.inl ⟨rfl,rfl⟩) (.inl ⟨rfl,rfl⟩) rfl rfl Pq Pq (.inl rfl) U).mono ?_;rintro A E ⟨D,rfl,C,B⟩))
 go_ret;exact⟨D,rfl,C,B⟩
def AIR(s:Int):Hb [] s=[]:=by unfold Hb;rw[Nu (by simp[EK,Bo])]
def AH7(w:AA)(D H:Nat)(F:Int->Int->AB)(c:Nat)(h:Dj w D H [] F c):
 AI 38 #[.pointer D] w (KB w 0 []):=by
 have J:=O h;go_in;go_wp2_with fail;go_loopw [3,9] (λo E wr=>∃A:Nat,o=.slice none 0 0/\E=.int .i64 (A:Int)/\A<=6/\Below w w wr) (λ_ E _=>7-(intOf E).toNat)
 case atStart=>exact⟨0,rfl,rfl,U,AN _ _⟩
 case round=>
  obtain⟨A,rfl,rfl,S,C⟩:=hrel;have B:=O C;by_cases R:A<6
  .have K:=Ar A 6;go_wp2_with fail;go_call bP wr D H [] F c (A:Int) (J.o.below B.o) Y9 P5 as L G ⟨I,rfl,hd,C⟩;rw[AIR] at hd;obtain⟨a,Q,rfl,_⟩:=hd.slice;replace B:=O (AW B.o C);go_wp2_with fail;go_loopw [3,16] (λo P N=>o=.slice none 0 0/\P=.int .i64 0/\N=G) (λ_ _ _=>0)
   case atStart=>exact⟨rfl,rfl,rfl⟩
   case round=>
    obtain⟨rfl,rfl,rfl⟩:=hrel;go_wp2_with fail;go_roundw
    case rel=>exact⟨A+1,rfl,A7,U,B.o⟩
    case measure=>exact A5
  .have K:=A4 A 6;go_wp2_with (go_at_call 82;refine(AFk _).mono ?_;rintro L G ⟨I,rfl,M,C⟩)
   go_ret;exact⟨I,rfl,F_ M B.o.size,AW B.o C⟩
section
attribute [local irreducible] Cu
def AKk(w:AA):AI 75 #[.agg (BP Dp)] w (Bz (.bool true) w):=by
 have A:=QK 1 1 1 false 3 13 0 5 9 0 0 0 0 0 w;rw[show BY ⟨1,1,1,false,3,13,0,5,9,0,0,0,0,0⟩=true from PX] at A;exact A
def ADw(B E:Nat)(w:AA)(x:B6)(b H I Q T:Nat)(L M N:AB)(h:JM B w 1 b H I Q T L M N)(v:CP E w x L M N)(AM:E<=w.heap.size)(u:Ho x)(o:B<=w.heap.size):
 AI 35 #[.pointer b,.agg (BP Dp)] w (iN B b w):=by
 have P:=O AKk;have F:=O (AFF Dp);rw[AKn,PX] at F;have J:=(AN w w).alloc AK (.cells (BP Dp) 105);have Ag:=O (h.below J);have A2:=O (v.below J);have A:=O (AG.new w 105 (BP Dp));have C:=O J;have W:=O u;have AO:=h.blk.lt;simp only[BP,Dp] at P F A C Ag A2 ⊢;go_in;go_upto_region 1 with fail;generalize w.alloc (.cells #[.int .i64 1,.int .i64 1,.int .i64 1,false,.int .i64 3,.int .i64 13,(),.int .i64 5,.int .i64 9,(),(),(),(),()] 105)=D at *;refine DB [4] [0,1,2,3,4,5,6,7,8,9,10,11,12,13,14,15] D AF AF rfl AD AF BK ?_;refine Hm ?_;have hd:=(AN D D).drew;have AH:D.drew.heap.size=D.heap.size:=rfl;replace Ag:=O Yo;replace A2:=O (A2.o.below hd);replace C:=O (AW C.o hd);replace A:=O A.o.drew;generalize D.drew=a at *;have S:=A.o.lt;have t:=Ag.o.blk.lt;rw[AH] at S t;have R:=A.o.cell;obtain⟨d,e,f,i,j,l,m,n,_⟩:=Ag.o.blk.BF;refine Cq ?_;intro K hK;go_at_call 75;go_call P.o a as G X1 ⟨rfl,hb1⟩;refine hK _ _ _ AK (hb1.mono U) ?_;replace Ag:=O (Ag.o.below hb1);replace A2:=O Y8;replace C:=O (AW C.o hb1);replace A:=O (A.o.below hb1 A.o.lt);have AQ:=hb1.size;have R:=A.o.cell;obtain⟨d,e,f,i,j,l,m,n,_⟩:=Ag.o.blk.BF;have AR:=A.o.lt;have AP:=Ag.o.blk.lt;refine HM ?_;go_wp2_with (go_at_call 38;refine(AH7 _ H I _ _ Ag.o.start.fd).mono ?_;rintro G c ⟨AV,rfl,AE,hb2⟩;obtain⟨AT,AU,rfl⟩:=CG AE)
 replace Ag:=O Yp;replace A2:=O (A2.o.below hb2);replace C:=O (AW C.o hb2);replace A:=O (A.o.below hb2 A.o.lt);go_loopw [32] (λAL wr=>AL=.int .i64 0/\wr=c) (λ_ _=>0)
 case atStart=>exact⟨rfl,rfl⟩
 case round=>
  obtain⟨rfl,rfl⟩:=hrel;have R:=A.o.cell;have S:=A.o.lt;go_wp2_with fail;go_call F.o wr as G Y ⟨v3,rfl,y,hb3⟩;have AS:=C.o.size;replace Ag:=O (Ag.o.below hb3);replace A2:=O (A2.o.below hb3);replace C:=O (AW C.o hb3);have AJ:=C.o.size;have X:=O y;go_wp2_with fail;go_call AKw B E wr Y x b H I Q T L M N v3 Ag.o A2.o U W.o U X.o as G Z ⟨g,v4,rfl,AC,r,s,hb4⟩;have V:Hid (iN B b w (.returned (.tuple #[v4,()])) Z):=⟨g,v4,rfl,F_ AC AJ,r,s,(C.o.mono o).trans hb4⟩;go_wp2_with fail;go_ret2;exact V.o
end
def Dj.fork{w:AA}{F D:Nat}{K:List Kd}{C:Int->Int->AB}{c:Nat}(h:Dj w F D K C c):∃B A,w.heap[D]? = some (.map B A)/\Dj ((w.alloc (.map B A)).alloc (.cells #[.map (some w)] 156)) (w.heap.size+1) w K C c:=by
 obtain⟨E,⟨B,A,H,J⟩,G⟩:=id h.map;refine⟨B,A,H,AG.newAt _ _ _ _ AH,⟨E,⟨B,A,(GI _ _ _ AH).trans (Hf w _),J⟩,G⟩,λL I=>?_⟩;exact((h.row L I).alloc _).alloc _
def AEB(B:Nat)(w:AA)(b:Nat)(s:Int)(i:Ins)(g:Cs)(h:Cr B w b s i g):
 AI 37 #[.pointer b] w λe A=>∃f m,e=.returned (.pointer (some ⟨f,0,none⟩))/\Dj A f m i.f g.V g.c/\Below w w A:=by
 obtain⟨R,Q,F,E⟩:=h.fd.fork;have C:=O (nU h.fd.blk F);have D:=O E;obtain⟨G,H,I,J,K,L,M,N,P⟩:=h.blk.BF;go_in;go_wp2_with (go_at_call 80;refine C.o.mono ?_;rintro e A ⟨rfl,rfl⟩)
 go_ret;exact⟨_,_,rfl,D.o,((AN _ _).alloc AK _).alloc AH _⟩
def AFj(w:AA)(g c:Nat)(G:∀(j:Nat) (u:AB),(BP Dp).toList[j]? = some u->w.cell? ⟨g,j,none⟩=some u)(H:g<w.heap.size):
 AI 82 #[.slice g 1 c,AL] w (KB w 1 (BP Dp).toList):=by
 have D:=O (AKs w g c G H);go_in;go_wp2_with fail;go_call D.o as B X ⟨v,rfl,hrow,hb⟩;obtain⟨p,I,rfl⟩:=CG hrow;have E:=O (Hv hrow);have A:=O hb;go_wp2_with (first
  | (go_at_call 147;refine(pR _).mono ?_;rintro B L ⟨rfl,rfl⟩)
  | (go_at_call 146;refine(bx _ p none 1 0 I 0 _ _ (BP Dp).toList [] E.o (.inl ⟨rfl,rfl⟩) rfl rfl (lg Dp) Pq (.inr rfl) U).mono ?_;rintro B K ⟨J,rfl,C,F⟩))
 go_ret;rw[El] at C;exact⟨J,rfl,F_ C A.o.size,AW A.o F⟩
def AH6(w:AA)(P m:Nat)(i:Int->Int->AB)(c:Nat)(h:Dj w P m Id.f i c):
 AI 38 #[.pointer P] w (KB w 1 (BP Dp).toList):=by
 have r:=O h;have t:=O Xg;go_in;go_wp2_with fail;go_loopw [3,9] (λo W wr=>∃A:Nat,W=.int .i64 (A:Int)/\A<=6/\Below w w wr/\(∃a Y H,o=.slice a Y H)/\((A<=1/\o=.slice none 0 0)\/(2<=A/\KB w 1 (BP Dp).toList (.returned o) wr))) (λ_ W _=>7-(intOf W).toNat)
 case atStart=>exact⟨0,rfl,U,AN _ _,⟨_,_,_,rfl⟩,.inl ⟨U,rfl⟩⟩
 case round=>
  obtain⟨A,rfl,A_,hb,⟨F,G,C,rfl⟩,S⟩:=hrel;have L:=O hb;have M:=O S;by_cases A3:A<6
  .have AC:=Ar A 6;go_wp2_with fail;go_call bP wr P m Id.f i c (A:Int) (r.o.below L.o) pN P5 as l X ⟨d,rfl,hd,hb⟩;rw[pO] at hd;by_cases n:A=1
   .subst n;rw[Ab (show((1:Nat):Int)=1 from rfl)] at hd;have S:Value.slice F G C=.slice none 0 0:=by
     rcases M.o with h|h
     .exact h.2
     .omega
    injection S with e1 e2 e3;subst e1 e2 e3;obtain⟨Q,Av,q,rfl,_,A6,_,AL,B⟩:=hd.at (λ_ _ H=>H.len) 0 DH rfl;obtain⟨BC,rfl,T⟩:=AL;obtain⟨_,Ah,Ai,Aj,Ak,Al⟩:=Mn;rw[Ah,Ai,Aj,Ak] at B;rw[Al] at T;have An:=B 0 AD;have Ao:=B 1 AD;have Ap:=B 2 AD;have Aq:=B 3 AD;have As:=B 4 AD;simp only[A8,Bt,O6,DP] at An Ao Ap Aq As;obtain⟨j,k,rfl⟩:=CV T;have y:=O T;have I:=O (AW L.o hb);have AO:w.heap.size<=X.heap.size:=I.o.size;go_wp2_with fail;go_loopw [3,16] (λo D K=>(o=.slice none 0 0/\D=.int .i64 0/\K=X)\/(D=.int .i64 1/\(∃a Y H,o=.slice a Y H)/\KB w 1 (BP Dp).toList (.returned o) K)) (λ_ D _=>2-(intOf D).toNat)
    case atStart=>exact .inl ⟨rfl,rfl,rfl⟩
    case round=>
     rcases hrel with ⟨rfl,rfl,rfl⟩|⟨rfl,⟨F,G,C,rfl⟩,Ac⟩
     .go_wp2_with fail;refine(jU _ E2 _ (Af.FI (y.o.alloc _)) (by have:=t.o.2;omega)).mono ?_;intro l N Ad;obtain⟨rfl,hb⟩:=Ad;obtain⟨AE,AF⟩:=dA PX;rw[show IY E2=Dp from AF,show Ew E2=true from AE];simp only[BP,Dp];have AQ:=(AN wr wr).alloc AK (.cells #[.int .i64 1,.int .i64 1,.int .i64 1,.int .u32 0,.slice j E2.length k] 108);have AS:=(AG.new wr 108 #[.int .i64 1,.int .i64 1,.int .i64 1,.int .u32 0,.slice j E2.length k]).below hb AH;have f:=O (I.o.trans ((AW AQ hb).mono AO));have Ae:=f.o.size;obtain⟨Ax,Ay,Az,A0,A1,dl⟩:=AS.DY;generalize wr.heap.size=A2 at *;go_wp2_with (at_builtin;go_loud (refine ET AZ _ _ 34 105 AZ underlying34 (.agg #[(),(),(),false,(),(),(),(),(),(),(),(),(),()]) 14 112 U U O4 rfl w _ 0 [] _ _ rfl C2 rfl ⟨rfl,.inl ⟨rfl,rfl⟩⟩ _ AZ AH U AM ?_);intro BB At V AR _)
      rw[DP,Dg] at V;obtain⟨A',BA,rfl⟩:=CG V;exact⟨.inr ⟨rfl,⟨_,_,_,rfl⟩,_,rfl,V,f.o.trans (((AN w N).alloc Ae _).trans AR)⟩,by simp[intOf]⟩
     .have g:=O Ac;go_wp2_with fail;go_roundw
      case rel=>exact⟨2,rfl,U,g.o.choose_spec.2.2,⟨_,_,_,rfl⟩,.inr ⟨U,g.o⟩⟩
      case measure=>simp[intOf]
   .rw[AU U] at hd;obtain⟨a,z,rfl,_⟩:=hd.slice;have v:Hid ((A<=1/\Value.slice F G C=.slice none 0 0)\/(2<=A/\KB w 1 (BP Dp).toList (.returned (.slice F G C)) X)):=by
     rcases M.o with h|⟨h,d,E,J,R⟩
     .exact .inl h
     .exact .inr ⟨h,d,E,Bl J (S:=[]) CX CE,AW R hb⟩
    have I:=O (AW L.o hb);go_wp2_with fail;go_loopw [3,16] (λo D K=>o=.slice F G C/\D=.int .i64 0/\K=X) (λ_ _ _=>0)
    case atStart=>exact⟨rfl,rfl,rfl⟩
    case round=>
     obtain⟨rfl,rfl,rfl⟩:=hrel;go_wp2_with fail;go_roundw
     case rel=>
      refine⟨A+1,A7,U,I.o,⟨_,_,_,rfl⟩,?_⟩;rcases v.o with ⟨Am,Z⟩|⟨Am,Z⟩
      .exact .inl ⟨U,Z⟩
      .exact .inr ⟨U,Z⟩
     case measure=>exact A5
  .have AC:=A4 A 6;rcases M.o with ⟨n,_⟩|⟨_,d,E,J,R⟩
   .omega
   .injection E with E;subst E;have x:=O (Hv J);have e:=O R;rcases J.2 with ⟨_,AJ⟩|⟨Q,Aw,cur,AV,A9,AX,_⟩
    .cases AJ
    .injection AV with e1 e2 e3;subst e1 e2 e3;have AY:Q<wr.heap.size:=(E7.1 AX).1;have u:=O (AFj wr Q C (by
      rcases x.o with ⟨h,_⟩|⟨Au,z,h,AT⟩
      .cases h
      .injection h with h;injection h with h;subst h;intro Ag q Aa;have:=AT Ag q Aa;rw[Mo,DP] at this;exact this) AY)
     go_wp2_with fail;go_call u.o as l N ⟨v2,rfl,hr2,hb2⟩;have s:Hid (KB w 1 (BP Dp).toList (.returned v2) N):=⟨v2,rfl,F_ hr2 e.o.size,AW e.o hb2⟩;go_wp2_with fail;go_ret;exact s.o
def AKl:Dw (Bp []) 1=0:=by
 unfold Dw;rw[Ab (mS []),Ab (W6 (i:=1) (s:=1) rfl rfl)]
def AKp:Jf DH=0/\Ix DH=1/\Iy DH=1/\Je DH=1/\Jd DH=0:=by
 obtain⟨A,B,C,D,E,F⟩:=Mn;simp[Jf,Ix,Iy,Je,Jd,A,B,C,D,E]
def AKm:Gg Id.f 1=1:=by unfold Gg;rw[pO];rfl
def AKj(w:AA)(x:Cl w):AI 10 #[] w (Bz (.bool true) w):=by
 have N:=O x;have M:=O AKp;have R:=O (mQ [] AL w ⟨none,0,rfl,Bh _,λh=>by simp at h⟩ AH);go_in;go_wp2_with fail;go_call R.o as e X ⟨v1,v2,v3,rfl,hl,hb⟩;have L:=O hb;have Q:=O hl;have G:=hb.size;have P:=O (N.o.after hb);go_wp2_with fail;go_call bK w (Bp []) 1 X v1 v2 v3 G P.o Q.o (cB []) AKl as e Y ⟨b,Ak,BU,am,A1,t1,t2,t3,rfl,hI⟩;have E:=O hI.bare;have T:=O hI.law;have U:=O (AW L.o hI.AJ);have K:=hI.AJ.size;go_wp2_with (first
  | (go_at_call 33;refine(ACq E.o.blk).mono ?_;rintro e w' ⟨rfl,rfl⟩)
  | (go_at_call 34;refine(ADp E.o.blk).mono ?_;rintro e w' ⟨rfl,rfl⟩))
 go_call ADw X w Y (Bp []) b Ak BU am A1 t1 t2 t3 E.o T.o (Ap G K) (cB []) K as e Z ⟨g,v4,rfl,ho,t,AO,hb4⟩;have A:=O t;have S:=O ho;have V:=O (U.o.trans (hb4.mono G));obtain⟨AP,AR,rfl⟩:=CV ho;have Il:Hid (DH.length<=100):=by show _<=_;rw[dx];have:=Xg;omega
 go_wp2_with fail;go_call kW _ DH Z (Af.FI S.o) OP as e B ⟨AT,rfl,y,hb1⟩;obtain⟨n,o,q,r,s⟩:=M.o;rw[n,o,q,r,s];obtain⟨H,I,rfl⟩:=CV y;simp only[G8];have W:=O (AW V.o hb1);replace A:=O (A.o.below hb1);generalize (IM DH).length=F at *;go_upto_region 6 with fail;have J:=(AN B B).alloc AK (.cells #[.int .i64 1,.int .i64 1,.int .i64 1,.int .u32 0,.slice H F I] 108);have C:=O (AG.new B 108 #[.int .i64 1,.int .i64 1,.int .i64 1,.int .u32 0,.slice H F I]);have a:=O (AW W.o J);replace A:=O (A.o.below J);generalize B.alloc (.cells #[.int .i64 1,.int .i64 1,.int .i64 1,.int .u32 0,.slice H F I] 108)=j at *;generalize B.heap.size=AM at *;go_wp2_with fail;go_call AEB X j b 1 Id g A.o as e k ⟨f,m,rfl,hf,hb3⟩;have D:=O hf;have c:=O (AW a.o hb3);replace C:=O (C.o.below hb3 C.o.lt);obtain⟨AC,AD,AE,AF,AJ,dl⟩:=C.o.DY;go_wp2_with fail;go_call bG k f m Id.f _ _ 1 D.o pN P5 as e l ⟨rfl,hb4⟩;rw[AKm];replace D:=O (D.o.below hb4);have d:=O (AW c.o hb4);go_wp2_with fail;go_call AH6 l f m _ _ D.o as e AB ⟨v5,rfl,z,u⟩;obtain⟨AQ,AS,rfl⟩:=CG z;have i:=O (AW d.o u);go_wp2_with fail;go_ret;exact⟨rfl,i.o⟩
def vC(x:B6)(s:Int)(w:AA)(e:Ending)(B:AA):Prop:=(∃A,e=.returned (.tuple #[.pointer A,.int .i64 (Dw x s)]))/\Below w w B
def ADe(B:Nat)(x:B6)(s:Int)(w:AA)(A C D:AB)(H:B<=w.heap.size)(F:Cl w)(h:CP B w x A C D)(G:Ho x):
 AI 6 #[s,.agg #[A,C,D]] w (vC x s w):=by
 by_cases E:Dw x s=0
 .go_call bK B x s w A C D H F h G E as e w' ⟨b,Ak,BU,am,A1,t1,t2,t3,rfl,hI⟩;exact⟨⟨_,by rw[E]⟩,hI.AJ⟩
 .refine(bL B x s w A C D F h G E).mono ?_;exact pf
def ABJ(B:Nat)(x:B6)(s:Int)(w:AA)(A C D:AB)(h:CP B w x A C D)(F:Ho x):
 AI 7 #[s,.agg #[A,C,D]] w (vC x s w):=by
 by_cases E:Dw x s=0
 .go_call aw B x s w A C D h F E as e w' ⟨G,Ak,A1,ab,cs,rfl,_,_,_,_,hb⟩;exact⟨⟨_,by rw[E]⟩,hb⟩
 .refine(kC B x s w A C D h F E).mono ?_;exact pf
def AFQ(n:Ay):Dw (Bp n) 0=0:=by
 unfold Dw;rw[Ab (mS n),Ab (W6 (i:=0) (s:=0) rfl rfl)]
def mT(n:Ay):Dw { Bp n with Bc:=[] } 0=1:=by
 unfold Dw;have A:IU { Bp n with Bc:=[] } = 1:=Ab rfl;rw[A];rfl
section
variable{j:Nat}
structure Ps(w:AA)(lb:Nat)(x:B6)(vj iw:AB)(l:AE)(rs:List AE)(v1 v2 v3:AB)(X:AA):Prop where
 g0:Cl w
 lo:w.heap.size<=lb
 blk:AG X lb 33 #[v1,v2,v3]
 laws:CP w X x v1 v2 v3
 AJ:Below w w X
 gl:Cl X
 sl:Af w X vj l
 rows:Pf w X iw rs
def Ps.next{w:AA}{lb:Nat}{x:B6}{I J:AB}{l:AE}{E:List AE}{F G H:AB}{C D:AA}(A:Ps w lb x I J l E F G H C)(B:Below C C D):Ps w lb x I J l E F G H D:=
 ⟨A.g0,A.lo,A.blk.below B A.blk.lt,A.laws.below B,AW A.AJ B,A.gl.after B,A.sl.below (B.mono A.AJ.size),A.rows.below (B.mono A.AJ.size)⟩
def Ps.off{w:AA}{lb:Nat}{x:B6}{I J:AB}{l:AE}{G:List AE}{C H D:AB}{B:AA}(A:Ps w lb x I J l G C H D B):
 CP w (B.setCell ⟨lb,1,none⟩ AL) { x with Bc:=[] } C AL D/\AG (B.setCell ⟨lb,1,none⟩ AL) lb 33 #[C,AL,D]/\Below w w (B.setCell ⟨lb,1,none⟩ AL)/\Cl (B.setCell ⟨lb,1,none⟩ AL):=by
 have E:=A.laws.set A.blk 1 AL;have F:=A.blk.put 1 AL;exact⟨⟨E.c1,AS.mt,E.c3⟩,F,A.AJ.setCell A.lo _,A.g0.after (A.AJ.setCell A.lo _)⟩
structure JJ(Z:AA)(BO A1:Nat)(i:Nat)(Y:AA):Prop where
 AJ:Below Z Z Y
 ri:∃cs,AG Y BO 55 cs/\cs[106]? = some (.pointer A1)
 De:∃bs L,GN Z Y A1 bs L 0/\L.length<=i/\bs.length<=406*i
 lo:Z.heap.size<=BO/\Z.heap.size<=A1
def JJ.start{A B:AA}{D C F:Nat}{ab:Nat->Nat}{cs:Array AB}(E:EF B D Eh F ab (.pointer C) cs)(I:GN A B C [] [] 0)(H:A.heap.size<=D)(J:A.heap.size<=C)(G:Below A A B):JJ A D C 0 B:=
 ⟨G,⟨cs,E.blk,E.Nv⟩,⟨[],[],I,Bh _,Bh _⟩,H,J⟩
def JJ.next{D A C:AA}{F G i:Nat}(h:JJ D F G i A)(B:Below A A C)(O:i<=j):JJ D F G j C:=by
 obtain⟨J,E,K⟩:=h.ri;obtain⟨I,H,L,M,N⟩:=h.De;exact⟨AW h.AJ B,⟨J,E.below B E.lt,K⟩,⟨I,H,L.below B,U,U⟩,h.lo⟩
def JJ.app{B E F:AA}{I C i:Nat}{G b:AE}{D:List AE}{e:Ending}(h:JJ B I C i E)(S:D.length<=i)(T:G.length<=406*i)(R:b.length<=400)(O:gJ B E C G D 0 b e F):e=.returned ()/\JJ B I C (i+1) F:=by
 obtain⟨rfl,N,A⟩:=O;obtain⟨J,H,K⟩:=h.ri;obtain⟨Q,P,L,_,_⟩:=h.De;obtain⟨V,W,M,_,_⟩:=L.ex;refine⟨rfl,⟨h.AJ.trans (A.below h.AJ.size (λU A=>by rw[Jv] at A;subst A;exact h.lo.2)),⟨J,H.kept A (by
  rw[Jv];intro e;subst e;exact absurd (H.same M) AD),K⟩,⟨_,_,N,AM,FD⟩,h.lo⟩⟩
structure Y3(Z:AA)(BO A1:Nat)(bs:AE)(L:List AE)(Y:AA):Prop where
 ri:∃cs,AG Y BO 55 cs/\cs[106]? = some (.pointer A1)
 bs:GN Z Y A1 bs L 0
def Y3.next{D A C:AA}{I J:Nat}{E:AE}{B:List AE}(F:Y3 D I J E B A)(H:Below A A C):Y3 D I J E B C:=by
 obtain⟨K,G,L⟩:=F.ri;exact⟨⟨K,G.below H G.lt,L⟩,F.bs.below H⟩
def Af.u8{B:Nat}{w:AA}{b o n c:Nat}{l:AE}{u:UInt8}(C:Af B w (.slice (some ⟨b,o,none⟩) n c) l)(A:l[j]? = some u):w.cell? ⟨b,o+j,none⟩=some (.int .u8 (u.toNat:Int)):=by
 obtain⟨G,I,E,J,F⟩:=C;obtain⟨H,K,ha,_,D⟩:=F (by have:=(Cd.1 A).1;omega);injection E with h1 h2 h3;rw[ha] at h1;cases h1;exact D j u A
def AKv(u:UInt8):∃x:UInt8,bits .and .u8 (u.toNat:Int) 7=(x.toNat:Int):=by
 refine⟨UInt8.ofNat (u.toNat%8),?_⟩;have h:∀A,A<256->bits .and .u8 ((A:Nat):Int) 7=((UInt8.ofNat (A%8)).toNat:Int):=L_;exact h _ u.toNat_lt
def AGX(w:AA)(Cn:Cl w)(A Aj:Ay)(fs:List Mz)(cs:List M9)(AO Aq AP BU:AB)(d s:Int)(h:Rp w A Aj fs cs AO Aq AP BU)(x CE:AB)(l:AE)(BB:Af w w x l)(Ag:l.length<=140737488355328)(J:List AE)(BN:Pf w w CE J):
 AI 3 #[.agg #[AO,Aq,AP,BU,d],s,x,CE] w (Bz (.bool true) w):=by
 obtain⟨Am,An,rfl,B_,BP⟩:=BN;have BN:Pf w w (.slice Am J.length An) J:=⟨Am,An,rfl,B_,BP⟩;have BX:=O Cn;have At:=O h;have B:=O BB;have CM:=O BN;obtain⟨Bn,Bs,rfl⟩:=h.laws.shape;obtain⟨Bo,Bu,rfl⟩:=h.WQ.shape;obtain⟨Bq,Bv,rfl⟩:=h.facts.shape;obtain⟨Br,Ac,rfl⟩:=h.XV.shape;have G:=(AN w w).alloc AK (.cells #[Value.slice Bn A.length Bs,Value.slice Bo Aj.length Bu,Value.slice Bq fs.length Bv,Value.slice Br cs.length Ac,Value.int IntKind.i64 d] 26);replace At:=O (At.o.below G);have P:=O G;go_in;go_wp2_with fail;go_call AKE _ A Aj fs cs _ _ _ _ d At.o as e X1 ⟨u1,u2,u3,q1,q2,q3,q4,q5,q6,rfl,hL,hb⟩;have CQ:=O (AW P.o hb);have CI:=O hL;have B':=Ap P.o.size hb.size;have DE:=P.o.size;obtain⟨AQ,AT,rfl,_⟩:=hL.c1.slice;obtain⟨AR,AV,rfl,_⟩:=hL.c2.slice;obtain⟨AS,AX,rfl,_⟩:=hL.c3.slice;generalize (w.alloc (.cells #[Value.slice Bn A.length Bs,Value.slice Bo Aj.length Bu,Value.slice Bq fs.length Bv,Value.slice Br cs.length Ac,Value.int IntKind.i64 d] 26))=DT at *;have G:=(AN X1 X1).alloc AK (.cells #[Value.slice AQ (Bp A).Ao.length AT,Value.slice AR (Bp A).Bc.length AV,Value.slice AS (Bp A).rat.length AX] 33);have CJ:=O (AG.new X1 33 #[Value.slice AQ (Bp A).Ao.length AT,Value.slice AR (Bp A).Bc.length AV,Value.slice AS (Bp A).rat.length AX]);have CH:=O ((CI.o.below G).lower DE);have P:=O (AW CQ.o G);have Dv:=P.o.size;have BC:=O (show w.heap.size<=X1.heap.size by omega);go_upto_region 2 with fail;generalize X1.alloc (.cells #[Value.slice AQ (Bp A).Ao.length AT,Value.slice AR (Bp A).Bc.length AV,Value.slice AS (Bp A).rat.length AX] 33)=Ax at *;generalize X1.heap.size=CB at *;go_wp2_with fail;go_call LT s 6 Ax U U as e X ⟨m,rfl,hm0,Dq,rfl⟩;have V:=O (cB A);have Bj:Hid (Ps w CB (Bp A) x (.slice Am J.length An) l J (Value.slice AQ (Bp A).Ao.length AT) (Value.slice AR (Bp A).Bc.length AV) (Value.slice AS (Bp A).rat.length AX) Ax):=O ⟨BX.o,BC.o,CJ.o,CH.o,P.o,BX.o.after P.o,B.o.below P.o,CM.o.below P.o⟩;generalize Ds:Value.slice AQ (Bp A).Ao.length AT=AO at *;generalize Dt:Value.slice AR (Bp A).Bc.length AV=Aq at *;generalize Du:Value.slice AS (Bp A).rat.length AX=AP at *;obtain⟨L,M,N,I⟩:=Bj.o.blk.y3;go_wp2_with fail;go_call ADe w (Bp A) m Ax _ _ _ Bj.o.AJ.size Bj.o.gl Bj.o.laws V.o as e X2 ⟨⟨p2,rfl⟩,hb⟩;replace Bj:=O (Bj.o.next hb);obtain⟨L,M,N,I⟩:=Bj.o.blk.y3;go_wp2_with fail;go_call ABJ w (Bp A) m X2 _ _ _ Bj.o.laws V.o as e CS ⟨⟨p3,rfl⟩,hb⟩;replace Bj:=O (Bj.o.next hb);obtain⟨L,M,N,I⟩:=Bj.o.blk.y3;go_wp2_with fail;go_call lA w (Bp A) m CS _ _ _ x l Bj.o.AJ.size Bj.o.gl Bj.o.laws V.o (Bj.o.sl.mono Bj.o.AJ.size) Ag P5 as e CT ⟨⟨DJ,rfl⟩,hb⟩;have C1:Hid (∃Al:BH,(F1 (Bp A) m l=0->∃a,Al=some a)/\(F1 (Bp A) m l≠0->Al=none)/\(if F1 (Bp A) m l=0 then some (⟨DJ,0,none⟩:Addr) else none)=Al):=O ⟨_,λh=>⟨_,Ab h⟩,λh=>AU h,rfl⟩;obtain⟨Al,BJ,BM,C2⟩:=C1.o;replace BJ:=O BJ;replace BM:=O BM;rw[C2];generalize BD:F1 (Bp A) m l=CC at *;replace BD:=O BD;replace Bj:=O (Bj.o.next hb);obtain⟨L,M,N,I⟩:=Bj.o.blk.y3;go_wp2_with fail;go_call j_ w (Bp A) m CT _ _ _ x l Bj.o.laws V.o (Bj.o.sl.mono Bj.o.AJ.size) Ag as e ALM ⟨⟨Dx,rfl⟩,hb⟩;rw[BD.o];replace Bj:=O (Bj.o.next hb);obtain⟨L,M,N,I⟩:=Bj.o.blk.y3;go_upto_region 7 with fail;go_cut [83] (λH F=>H=.bool false/\Ps w CB (Bp A) x (.slice Am J.length An) l J AO Aq AP F);case first=>
  by_cases Ah:CC=0
  .obtain⟨Dz,BI⟩:=BJ.o Ah;subst Ah BI;exact sS
  .have BI:=BM.o Ah;subst BI;have DY:(CC==0)=false:=Aw.2 Ah;exact sS
 case rest=>
 obtain⟨rfl,BQ⟩:=hcut;replace Bj:=O BQ;generalize wc=HF at *;obtain⟨L,M,N,I⟩:=Bj.o.blk.y3;have Av:=Bj;go_wp2_with fail;go_call aw w (Bp A) 0 HF _ _ _ Bj.o.laws V.o (AFQ A) as e DU ⟨u,Ak,A1,ab,cs,rfl,hin,AC,BC,Cu,hb⟩;have B:=O (JJ.start hin AC (BC u (TT.2 (.inl rfl))) Cu hb);replace Bj:=O (Bj.o.next hb);obtain⟨L,M,N,I⟩:=Bj.o.blk.y3;go_upto_block 0 with fail;go_cut [] (λF=>∃C:Nat,C<=6/\JJ HF u A1 C F);case first=>
  go_wp2_with fail;go_loopw [23] (λH wr=>∃C:Nat,H=.int .i64 (C:Int)/\C<=6/\JJ HF u A1 C wr) (λH _=>7-(intOf H).toNat)
  case atStart=>exact⟨0,rfl,Az _,B.o⟩
  case round=>
   obtain⟨C,rfl,A',t⟩:=hrel;have B:=O t;have Aa:=O (Av.o.next t.AJ);by_cases BB:C<J.length
   .have CV:=Ar C J.length;by_cases Dh:C<6
    .have CW:=Ar C 6;obtain⟨_,_,e,B_,BP⟩:=Aa.o.rows;injection e with e1 e2 e3;subst e1 e3;obtain⟨BT,DM,rfl,C4,C6⟩:=BP U;obtain⟨Z,C5⟩:∃l,J[C]? = some l:=⟨_,BL BB⟩;obtain⟨Db,Dd,Ck,C9,B',Ag⟩:=C6 C Z C5;have B9:BT<wr.heap.size:=Co C4 Aa.o.AJ.size;have Be:=O C9;go_upto_region 15 with fail;obtain⟨k,B7⟩:∃k:UInt8,(k.toNat:Int)=1+(C:Int)%3:=⟨UInt8.ofNat (1+C%3),AM⟩;have BE:=Qc wr wr #[.int .u8 (1+(C:Int)%3)] [k] (by simp[A3,B7]) AK AH;have G:=(AN wr wr).alloc AK (.cells #[.int .u8 (1+(C:Int)%3)] 5);have Au:=O (Be.o.below (G.mono Aa.o.AJ.size));have DQ:=O B7;go_upto_region 16 with (at_builtin;go_loud (refine VQ AZ _ _ AZ wr _ (.slice wr 1 1) _ [k] Z _ AZ BE AZ Au.o (λc h=>by injection h with h1 _ B0;rw[<-B0];exact B' h1) AM AH ?_);intro BU Q BF n Dn)
     replace n:=G.trans n;obtain⟨W,A9⟩:∃D,[k]++Z=D:=⟨_,rfl⟩;rw[A9] at BF;have Cy:W.length=1+Z.length:=by rw[<-A9];simp;omega
     have Ca:W[0]? = some k:=by rw[<-A9];rfl
     obtain⟨CX,Ac,rfl,_,_,Cv⟩:=bW BF U;have Bd:=O (Af.FI BF);have Ci:=Bd.o.u8 Ca;rw[DP] at Ci;replace B:=O (B.o.next n AK);have Ba:=O Cy;clear Cy;have Dk:=(n.cell (p:=⟨BT,DM+C,none⟩) B9).trans Ck;have Dr:BT<Q.heap.size:=Co B9 n.size;have Bf:=O (Be.o.below (n.mono Aa.o.AJ.size));have DR:=O Ag;go_cut [119] (λH F=>∃b:Bool,H=.bool b/\(b=true->13<=W.length)/\Q=F);case first=>
      by_cases cm:13<=W.length
      .have A2:=LC 13 W.length;exact qL
      .have A2:=KI 13 W.length;exact qe
     case rest=>
     obtain⟨b,rfl,Cb,rfl⟩:=hcut;go_upto_if 119 with fail;go_cut [24] (λH F=>∃(i c:Nat) (D:AE),H=.slice i D.length c/\1<=D.length/\i<F.heap.size/\Af F F (.slice i D.length c) D/\JJ HF u A1 C F);case first=>
      rcases b with _|_
      .go_wp2_with fail;go_meet;exact⟨CX,Ac,W,rfl,by have:=Ba.o;omega,Cv,Bd.o,B.o⟩
      .have Dg:12<=Z.length:=by have:=Ba.o;have:=Cb rfl;omega
       obtain⟨_,_,e,Cm,BQ⟩:=Bf.o;injection e with e1 e2 e3;subst e1 e3;obtain⟨Dc,De,rfl,Dm,_⟩:=BQ U;have CO:=O (Bf.o.sub (n:=4) (k:=8) U);go_upto_region 17 with fail;obtain⟨BR,Cp⟩:∃f:UInt8,(f.toNat:Int)=(C:Int):=⟨UInt8.ofNat C,AM⟩;have BE:=Qc Q Q #[.int .u8 2,.int .u8 1,.int .u8 4,.int .u8 (C:Int)] [2,1,4,BR] (by simp[A3,Cp]) AK AH;have G:=(AN Q Q).alloc AK (.cells #[.int .u8 2,.int .u8 1,.int .u8 4,.int .u8 (C:Int)] 5);have Au:=O (CO.o.below (G.mono (Av.o.next B.o.AJ).AJ.size));have DO:=O Cm;go_upto_region 18 with (at_builtin;go_loud (refine VQ AZ _ _ AZ Q _ (.slice Q 4 4) _ [2,1,4,BR] ((Z.drop 4).take 8) _ AZ BE AZ Au.o gI AM AH ?_);intro D0 R AJ Ad Do)
       replace Ad:=G.trans Ad;obtain⟨E,B2⟩:∃D,[2,1,4,BR]++(Z.drop 4).take 8=D:=⟨_,rfl⟩;rw[B2] at AJ;have Cz:E.length=12:=by rw[<-B2];simp;omega
       obtain⟨A6,A0,rfl,_,_,Cw⟩:=bW AJ U;replace AJ:=AJ.alloc (.cells #[.int .u8 1] 5);have Cd:=Ad.alloc Ad.size (.cells #[.int .u8 1] 5);have BW:=O Cd;have CK:=O AJ;have Bb:=O Cz;go_wp2_with (at_builtin;go_loud (refine VQ AZ _ _ AZ Q _ (.slice A6 E.length A0) _ E [1] _ AZ CK.o AZ (Af.bg (l:=[1]) (AG.new R 5 #[.int .u8 1]) rfl) gI (by have:=Bb.o;simp;omega) BW.o.size ?_);intro D1 g BG A_ Dp;obtain⟨Bg,B3⟩:∃D,E++[1]=D:=⟨_,rfl⟩;rw[B3] at BG;have B8:Bg.length=13:=(by have:=Bb.o;rw[<-B3];simp;omega);have A_:=BW.o.trans A_;obtain⟨CY,Bw,rfl,_,Dj,Cx⟩:=bW BG U;have CL:=O BG;have CF:=O A_;have BY:=O B8;have Di:13<=Bw:=U;rw[B8])
       go_meet;exact⟨CY,Bw,Bg,by rw[BY.o],by rw[BY.o];omega,Cx,Af.FI CL.o,B.o.next CF.o AK⟩
     case rest=>
     obtain⟨A6,A0,E,rfl,By,Cw,C7,Cr⟩:=hcut;have AY:=O C7;replace B:=O Cr;generalize wc=R at *;obtain⟨u0,C_⟩:∃f,E[0]? = some f:=⟨_,BL By⟩;have Cf:=AY.o.u8 C_;rw[DP] at Cf;go_upto_region 19 with fail;go_cut [141] (λH F=>∃b:Bool,H=.bool b/\(b=true->3<=E.length)/\R=F);case first=>
      by_cases cm:3<=E.length
      .have A2:=LC 3 E.length;exact qL
      .have A2:=KI 3 E.length;exact qe
     case rest=>
     obtain⟨CU,rfl,Cc,rfl⟩:=hcut;go_upto_if 141 with fail;go_cut [24] (λH F=>∃(i c:Nat) (D:AE),H=.slice i D.length c/\1<=D.length/\Af F F (.slice i D.length c) D/\JJ HF u A1 C F);case first=>
      rcases CU with _|_
      .go_wp2_with fail;go_meet;exact⟨A6,A0,E,rfl,By,AY.o,B.o⟩
      .have B0:3<=E.length:=Cc rfl;obtain⟨u1,C'⟩:∃f,E[1]? = some f:=⟨_,BL U⟩;obtain⟨u2,DA⟩:∃f,E[2]? = some f:=⟨_,BL U⟩;go_upto_region 20 with fail;refine DB [7] [0,1,2,3,4,5,6,7,8] R AF AF rfl AD AF BK ?_;refine Hm ?_;have S:=(AN R R).drew;have hs:=O (show R.drew.heap.size=R.heap.size from rfl);have Cg:=(AY.o.below S).u8 C';have Ch:=(AY.o.below S).u8 DA;rw[DP] at Cg Ch;replace B:=O (B.o.next S AK);generalize R.drew=g at *;have DZ:=Ar 1 E.length;have Da:=Ar 2 E.length;refine Cq ?_;intro K hK;obtain⟨Ao,DC⟩:=AKv u1;rw[DC];have G:=(AN g g).alloc AK (.cells #[.int .u8 3,.int .u8 (Ao.toNat:Int),.int .u8 (u2.toNat:Int)] 5);refine hK _ _ g (Nat.le_of_eq hs.o.symm) (G.mono (Nat.le_of_eq hs.o.symm)) ?_;have Ce:=AG.new g 5 #[.int .u8 3,.int .u8 (Ao.toNat:Int),.int .u8 (u2.toNat:Int)];refine HM ?_;go_wp2_with fail;go_meet;exact⟨g,3,[3,Ao,u2],rfl,AH,Af.bg (l:=[3,Ao,u2]) Ce rfl,B.o.next G AK⟩
     case rest=>
     obtain⟨Df,DX,Bi,rfl,CZ,C8,Cs⟩:=hcut;have CN:=O C8;replace B:=O Cs;generalize wc=Bk at *;obtain⟨Bx,T,r⟩:=B.o.ri;obtain⟨Y,D,AC,B4,B5⟩:=B.o.De;have y:=T.cell 106;rw[r] at y;have Ae:=T.lt;have CG:=O AC;have BZ:=O B4;have OJ:=O B5;have DS:=O r;by_cases B1:Bi.length<=400
     .go_wp2_with fail;refine(kB HF Bk A1 Y D 0 _ Bi CG.o B.o.AJ.size CN.o CZ B1 U' (by have:=BZ.o;omega)).mono ?_;rintro e CR C0;obtain⟨rfl,Ct⟩:=B.o.app BZ.o OJ.o B1 C0;go_wp2_with fail;go_roundw
      case rel=>exact⟨C+1,A7,U,Ct⟩
      case measure=>exact A5
     .go_wp2_with fail;go_call ABQ Bk A1 _ _ _ (.inr U) as e CR ⟨rfl,rfl⟩;go_wp2_with fail;go_roundw
      case rel=>exact⟨C+1,A7,U,B.o.next DL Up⟩
      case measure=>exact A5
    .have CW:=A4 C 6;go_wp2_with fail;go_meet;exact⟨C,A',B.o⟩
   .have CV:=A4 C J.length;go_wp2_with fail;go_meet;exact⟨C,A',B.o⟩
 case rest=>
 obtain⟨C,A',t⟩:=hcut;obtain⟨Y,D,AC,B4,B5⟩:=t.De;have B:Hid (Y3 HF u A1 Y D wc):=O ⟨t.ri,AC⟩;replace Bj:=O (Av.o.next t.AJ);generalize wc=X at *;obtain⟨L,M,N,I⟩:=Bj.o.blk.y3;have CP:=O (show Ec 0 by unfold Ec;omega);go_upto_region 22 with fail;refine DB [8] [0,1,2,3,4,5,6,7,8,9,10,11,12,13] X AF AF rfl AD AF BK ?_;refine Hm ?_;have S:=(AN X X).drew;have hs:X.drew.heap.size=X.heap.size:=rfl;replace Bj:=O (Bj.o.next S);replace B:=O (B.o.next S);generalize X.drew=Bl at *;obtain⟨Bx,T,r⟩:=B.o.ri;obtain⟨BV,DN,BA,BO,_⟩:=B.o.bs.ex;obtain⟨L,M,N,I⟩:=Bj.o.blk.y3;have y:=T.cell 106;rw[r] at y;have Ae:=T.lt;obtain⟨DF,DG,DH,BS⟩:=BA.y3;rw[hs] at Ae I BS;refine Cq ?_;intro K hK;go_at_call 8;go_call (lA w (Bp A) 0 Bl _ _ _ BV Y Bj.o.AJ.size Bj.o.gl Bj.o.laws V.o (Af.FI BO) U CP.o) as e P1 ⟨⟨DK,rfl⟩,hb⟩;obtain⟨CD,C3⟩:∃CD:BH,(if F1 (Bp A) 0 Y=0 then some (⟨DK,0,none⟩:Addr) else none)=CD:=⟨_,rfl⟩;rw[C3];obtain⟨Dw,Ai⟩:∃o,F1 (Bp A) 0 Y=o:=⟨_,rfl⟩;rw[Ai];replace Ai:=O Ai;refine hK _ _ Bl Yu (hb.mono Yu) ?_;replace Bj:=O (Bj.o.next hb);replace B:=O (B.o.next hb);refine HM ?_;go_upto_region 23 with fail;refine DB [8] [0,1,2,3,4,5,6,7,8,9,10,11,12,13] P1 AF AF rfl AD AF BK ?_;refine Hm ?_;have S:=(AN P1 P1).drew;have hs:P1.drew.heap.size=P1.heap.size:=rfl;replace Bj:=O (Bj.o.next S);replace B:=O (B.o.next S);generalize P1.drew=Bm at *;obtain⟨Bx,T,r⟩:=B.o.ri;obtain⟨BV,DN,BA,BO,_⟩:=B.o.bs.ex;obtain⟨L,M,N,I⟩:=Bj.o.blk.y3;have y:=T.cell 106;rw[r] at y;have Ae:=T.lt;obtain⟨DF,DG,DH,BS⟩:=BA.y3;rw[hs] at Ae I BS;refine Cq ?_;intro K hK;go_at_call 9;go_call (j_ w (Bp A) 0 Bm _ _ _ BV Y Bj.o.laws V.o (Af.FI BO) U) as e P2 ⟨⟨Dy,rfl⟩,hb⟩;rw[Ai.o];refine hK _ _ Bm Yu (hb.mono Yu) ?_;replace Bj:=O (Bj.o.next hb);replace B:=O (B.o.next hb);refine HM ?_;obtain⟨L,M,N,I⟩:=Bj.o.blk.y3;have DW:=Bj.o.blk.frozen 1;have As:=O Bj.o.off;go_wp2_with fail;refine(bL w { Bp A with Bc:=[] } 0 _ AO AL AP As.o.2.2.2 As.o.1 (AGW A) (by rw[mT];decide)).mono ?_;rintro e DV ⟨B6,hb⟩;rw[mT] at B6;subst B6;go_wp2_with fail;go_ret;exact⟨rfl,AW As.o.2.2.1 hb⟩
end
section
open Go.ChangeShapes Go.WideShapes Go.ChangeAt Go.RowKit Go.Deep
noncomputable def mW(os:Os):AA:=World.laidAll prog os Rows.institutionOpenRejectsRow.laid
def AGa(os:Os)(args:Array AB):laidMetH prog Rows.institutionOpenRejectsRow.laid ((mW os).forCall (λ_ _=>0) ⟨#[],args,[]⟩).memory:=
 laidMet_laidAll args AF AF
def zI:(prog.globals[3]?).map (·.type)=some 437:=AF
def AEd(os:Os)(AY:os.Started)(L:Type)(enc:TypeId × AB->L)(K:Stop.Interp):
 ReturnsInHanded {} checked os 3 .any ((OpenSpec.ofChange Rows.institutionOpenRejectsSpec).preRow enc prog f3 Rows.institutionOpenRejectsRow.domain false Rows.institutionOpenRejectsRow.laid) (((OpenSpec.ofChange Rows.institutionOpenRejectsSpec).at K).post enc prog f3 false true false false):=by
 refine returnsInHanded_of_row (C:=checked) (s:=OpenSpec.ofChange Rows.institutionOpenRejectsSpec) AEZ AY AF func3
  (witness_row_at (enc:=enc) (C:=checked) false (mW os) #[.agg #[.slice none 0 0,.slice none 0 0,.slice none 0 0,.slice none 0 0,.int .i64 0],.int .i64 0,.slice none 0 0,.slice none 0 0] rfl AF AF AF
   (OpenSpec.preRow_of_B rfl 8 AF AF (AGa os _))) ?_
 intro A q args P s before a Y _ _ Z X AI _;have G:(DataW.weightsEach prog (f3.params.toList++(OpenSpec.ofChange Rows.institutionOpenRejectsSpec).bare.plain.varTypes prog) (P++s)).all (·<=reachBytes)=true:=Z;have F:∀(b:Nat) t v,f3.params[b]? = some t->args[b]? = some v->Value.okWide prog A .any q t v:=a;have x:=Y;obtain⟨p,Aw,W,w,rfl,_,_⟩:=Y;have V:DataW.TrodAll enc prog A 0 (λ_=>true) true f3.params.toList args.toList P p:=W;rw[params3] at V F G;obtain⟨l,A3,M,Ai,i,Ay,Ap,rfl,rfl,Q,AZ⟩:=trodAll_cons V;obtain⟨m,A4,Ah,Aj,AS,Az,rfl,rfl,rfl,R,Aa⟩:=trodAll_cons AZ;obtain⟨n,A5,N,Ak,j,A0,rfl,rfl,rfl,S,Ab⟩:=trodAll_cons Aa;obtain⟨o,A6,O,Al,k,A1,rfl,rfl,rfl,T,Ac⟩:=trodAll_cons Ab;obtain⟨rfl,rfl,rfl⟩:=trodAll_nil Ac;obtain rfl:args=#[l,m,n,o]:=by cases args;simp_all
 obtain⟨rfl,rfl⟩:=trodVars_none w;have d:=Q;have e:=R;have f:=S;have g:=T;have AM:∀D∈i,D.block<A.heap.size:=by obtain⟨C,B⟩:=d;exact DataW.trod_lt C _ _ _ B
 have AN:∀D∈AS,D.block<A.heap.size:=by obtain⟨C,B⟩:=e;exact DataW.trod_lt C _ _ _ B
 have AO:∀D∈j,D.block<A.heap.size:=by obtain⟨C,B⟩:=f;exact DataW.trod_lt C _ _ _ B
 have AP:∀D∈k,D.block<A.heap.size:=by obtain⟨C,B⟩:=g;exact DataW.trod_lt C _ _ _ B
 obtain⟨AQ,AR,fs,r,AU,AV,AW,AX,Ad,rfl,AH⟩:=AEf (F 0 26 l rfl rfl) Q;obtain⟨J,rfl,rfl,rfl,A7⟩:=open_int underlying3 (F 1 3 m rfl rfl) R;obtain⟨Af,c,AL,rfl,_,AJ,AA⟩:=AEh (F 2 27 n rfl rfl) S;obtain⟨AT,AE⟩:=AEg (F 3 28 o rfl rfl) T;have AG:=AH (PU (j:=0) G rfl rfl);have AD:=AE (PU (j:=3) G rfl rfl);have As:=AA (PU (j:=2) G rfl rfl);obtain⟨C,B⟩:=cell_of_shapedOpen_int (P:=prog) (g:=0) (t:=3) (zero:=#[.int .i64 0]) AI (Ic AF) AF rfl AF AF underlying3;have u:laidMet prog [("internal/strconv.uint64pow10",Lib.tabData .u64 Lib.pow10Tab)] A:=laidMet.tail (laidMet.tail X);have AK:Lib.TabIs prog A "internal/strconv.uint64pow10" .u64 Lib.pow10Tab:=Lib.tabIs_of_head nR zI underlying437 underlying276 AF AF u;have AC:6<=A.heap.size:=by
  obtain⟨Av,⟨Ao,A2,Ag,An,Au,Ax,Ar,At,I,Aq,_,_⟩,_⟩:=(laidMet.tail X:laidMet prog (("math/bits.deBruijn64tab",Rows.laid_math_bits_deBruijn64tab)::[("internal/strconv.uint64pow10",Lib.tabData .u64 Lib.pow10Tab)]) A);have z:prog.globalNamed "math/bits.deBruijn64tab" = some 5:=AF;unfold World.var? at I;rw[z] at I;rcases Fg 5 A.heap.size with h|h
  .exact h
  .simp[Kl h] at I
 clear W a Z;refine(AGX A ⟨⟨C,B⟩,AK,AC⟩ AQ AR fs r AU AV AW AX Ad J AG _ _ AL AJ U AT AD).mono λAm Ae ⟨y,E⟩=>?_;subst y;have H:((OpenSpec.ofChange Rows.institutionOpenRejectsSpec).at K).fn L ([M,.lit (.int .i64 J),N,O]++[]) = { results:=[.lit (.bool true)],args:=[M,.lit (.int .i64 J),N,O] }:=rfl;refine⟨_,rfl,_,_,_,[],i++([]++(j++(k++[]))),[],x,?_,?_,?_,E.frame _,λh=>by cases h⟩
 .rw[H];exact trodAll_mk1 (shut_bool underlying4 _)
 .rw[H];exact(trodAll_cons_mk (Below.trod Oy AF (Ic AF) d E AM) (trodAll_cons_mk (Below.trod Oy AF (Ic AF) e E AN) (trodAll_cons_mk (Below.trod Oy AF (Ic AF) f E AO) (trodAll_cons_mk (Below.trod Oy AF (Ic AF) g E AP) trodAll_mk0))))
 .rw[H];rfl
end
