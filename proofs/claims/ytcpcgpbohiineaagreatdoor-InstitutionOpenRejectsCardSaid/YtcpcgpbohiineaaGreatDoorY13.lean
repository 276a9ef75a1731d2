/- Lemmas for Y28. -/
import Derived.Test.YtcpcgpbohiineaaGreatDoorY09
import Derived.Test.YtcpcgpbohiineaaGreatDoorY10
namespace Go.Proofs.YtcpcgpbohiineaaGreatDoor
open Go.RowKit Go.Proofs.Tryz
set_option linter.all false
set_option maxRecDepth 100000
set_option maxHeartbeats 4000000
section
variable{n B b k:Nat}{w':AA}
def AK1(w:AA):(Instr.alloc 105 true (.tuple #[])).run prog w=.ok (ptrTo w) (w.alloc (.cells #[(),(),(),false,(),(),(),(),(),(),(),(),(),()] 105)):=by
 go_simp;rfl
def AK9(i d:Nat):∀x∈[(⟨i,d,105,#[(),(),(),false,(),(),(),(),(),(),(),(),(),()]⟩:Cb)],∀w,(Instr.alloc x.t true (.tuple #[])).run prog w=.ok (ptrTo w) (w.alloc (.cells x.z x.t)):=by
 intro x A w;simp only[Aj,A',A_] at A;subst A;exact AK1 w
def E5(b:UInt8):wrap64 (b.toNat:Int)=(b.toNat:Int):=by
 have:=b.toNat_lt;unfold wrap64;omega
def Af.sub{w:AA}{o c:Nat}{l:AE}(h:Af B w (.slice (some ⟨b,o,none⟩) l.length c) l)(O:n+k<=l.length):Af B w (.slice (some ⟨b,o+n,none⟩) k (c-n)) ((l.drop n).take k):=by
 obtain⟨K,M,F,N,h⟩:=h;injection F with h1 h2 h3;subst h1 h3;have A:((l.drop n).take k).length=k:=AM;refine⟨_,_,by rw[A],by rw[A];omega,λH=>?_⟩;rw[A] at H;obtain⟨L,P,ha,D,E⟩:=h U;injection ha with ha;injection ha with ha1 C;subst ha1 C;refine⟨_,_,rfl,D,λI J hu=>?_⟩;have G:I<k:=xF;rw[Tk G,Wh] at hu;rw[Nj];exact E _ J hu
structure JE(w:AA)(g:Nat)(f:Bm)(wr:AA):Prop where
 z:AG wr w 105 (BP GR)
 f:AG wr g 105 (BP f)
 AJ:Below w w wr
 hg:w.heap.size<g
def pK{w wr:AA}{g:Nat}(Q:Below B w wr)(A:B<=g)(C D I:Int)(J:Bool)(K L M N O P E F G H:Int):
 Below B w (((((((((((((((wr.setCell ⟨g,0,none⟩ C).setCell ⟨g,1,none⟩ D).setCell ⟨g,2,none⟩ I).setCell ⟨g,3,none⟩ (.bool J)).setCell ⟨g,4,none⟩ K).setCell ⟨g,5,none⟩ L).setCell ⟨g,6,none⟩ M).setCell ⟨g,7,none⟩ N).setCell ⟨g,8,none⟩ O).setCell ⟨g,9,none⟩ P).setCell ⟨g,10,none⟩ E).setCell ⟨g,11,none⟩ F).setCell ⟨g,12,none⟩ G).setCell ⟨g,13,none⟩ H)):=
 ((((((((((((((Q.setCell A _).setCell A _).setCell A _).setCell A _).setCell A _).setCell A _).setCell A _).setCell A _).setCell A _).setCell A _).setCell A _).setCell A _).setCell A _).setCell A _)
def AH5{wr:AA}{g:Nat}{t:TypeId}{cs:Array AB}(Q:AG wr b t cs)(A:b≠g)(C D I:Int)(J:Bool)(K L M N O P E F G H:Int):
 AG (((((((((((((((wr.setCell ⟨g,0,none⟩ C).setCell ⟨g,1,none⟩ D).setCell ⟨g,2,none⟩ I).setCell ⟨g,3,none⟩ (.bool J)).setCell ⟨g,4,none⟩ K).setCell ⟨g,5,none⟩ L).setCell ⟨g,6,none⟩ M).setCell ⟨g,7,none⟩ N).setCell ⟨g,8,none⟩ O).setCell ⟨g,9,none⟩ P).setCell ⟨g,10,none⟩ E).setCell ⟨g,11,none⟩ F).setCell ⟨g,12,none⟩ G).setCell ⟨g,13,none⟩ H)) b t cs:=
 ((((((((((((((Q.far A _).far A _).far A _).far A _).far A _).far A _).far A _).far A _).far A _).far A _).far A _).far A _).far A _).far A _)
def AA_{w wr:AA}{g:Nat}{f:Bm}(A:JE w g f wr)(C D I:Int)(J:Bool)(K L M N O P E F G H:Int):JE w g ⟨C,D,I,J,K,L,M,N,O,P,E,F,G,H⟩ (((((((((((((((wr.setCell ⟨g,0,none⟩ C).setCell ⟨g,1,none⟩ D).setCell ⟨g,2,none⟩ I).setCell ⟨g,3,none⟩ (.bool J)).setCell ⟨g,4,none⟩ K).setCell ⟨g,5,none⟩ L).setCell ⟨g,6,none⟩ M).setCell ⟨g,7,none⟩ N).setCell ⟨g,8,none⟩ O).setCell ⟨g,9,none⟩ P).setCell ⟨g,10,none⟩ E).setCell ⟨g,11,none⟩ F).setCell ⟨g,12,none⟩ G).setCell ⟨g,13,none⟩ H)):=
 ⟨AH5 A.z (Nat.ne_of_lt A.hg) _ _ _ _ _ _ _ _ _ _ _ _ _ _,La A.f _ _ _ _ _ _ _ _ _ _ _ _ _ _,pK A.AJ (I3 A.hg) _ _ _ _ _ _ _ _ _ _ _ _ _ _,A.hg⟩
def JE.put{w wr:AA}{g:Nat}{f f':Bm}(h:JE w g f wr)(i:Nat)(u:AB)(hf:(BP f).setIfInBounds i u=BP f'):JE w g f' (wr.setCell ⟨g,i,none⟩ u):=
 ⟨h.z.far (Nat.ne_of_lt h.hg) u,vl,h.AJ.setCell (I3 h.hg) u,h.hg⟩
def JE.next{w wr:AA}{g:Nat}{f:Bm}(A:JE w g f wr)(C:Below wr wr w'):JE w g f w':=
 ⟨A.z.below C A.z.lt,A.f.below C A.f.lt,AW A.AJ C,A.hg⟩
def JE.drew{w wr:AA}{g:Nat}{f:Bm}(A:JE w g f wr):JE w g f wr.drew:=⟨A.z.drew,A.f.drew,A.AJ.drew,A.hg⟩
def So{l:AE}(A:l.length<k)(C:Bool):Cv k l C=true:=by simp[Cv,A]
def AGI{f:Bm}{l:AE}(h:l.length<6):(Bq ⟨f,l,false⟩ 80).sh=true:=by
 have A:(Bq ⟨f,l,false⟩ 80).sh=Cv 3 (BD 3 l) (Cv 3 l false):=by simp[Bq]
 rw[A];by_cases E:l.length<3
 .rw[So E];simp[Cv]
 .obtain⟨_,C,D⟩:=KM 3 l U;rw[C,D];exact So AM _
def AGJ{f:Bm}{l:AE}(h:n+6<=l.length):Bq ⟨f,l.drop n,false⟩ 80=⟨{ f with fr:=AQ ((l.drop n).take 3),BR:=AQ ((l.drop (n+3)).take 3) },l.drop (n+6),false⟩:=by
 obtain⟨E,F,G⟩:=KM 3 (l.drop n) AM;obtain⟨A,C,D⟩:=KM 3 (l.drop (n+3)) AM;simp[Bq,E,F,G,I5,A,C,D]
def AIv(u:AE)(n:Nat)(A:n<u.length):u=u.take n++u[n]::u.drop (n+1):=by
 rw[<-Kk A,Md]
def ABx{l:AE}{f:Bm}{w:AA}(ha:FG l=⟨f,l.drop n,false⟩)(D:n<=l.length)(h:DZ l=true)(C:Below w w w'):
 Uc l w (.returned (.tuple #[.agg (BP f),n,true])) w':=by
 refine⟨?_,C⟩;have A:(l.length:Int)-((l.drop n).length:Int)=(n:Int):=g_;simp only[KP,LL,h,ha,CI,A]
def AA8(v:AB)(l:AE)(w:AA)(hsl:Af w w v l)(BS:l.length<=4611686018427387904):
 AI 334 #[v] w (Uc l w):=by
 obtain⟨BI,c,A3,BM,AV⟩:=id hsl;subst A3;by_cases BJ:(l.length:Int)<7
 .have An:=O (AB4 (l:=l) U);have F:AG (w.alloc (.cells #[(),(),(),false,(),(),(),(),(),(),(),(),(),()] 105)) w 105 (BP GR):=AG.new _ _ _;clear AV hsl;go_in;go_wp2;refine BE (v:=.tuple #[.agg (BP ⟨0,0,0,false,0,0,0,0,0,0,0,0,0,0⟩),(),false]) (QV results334 _ _ w 105 _ (0,0) _ _ _ rfl rfl rfl F underlying105 rfl Ke) rfl ?_;exact V6 An.o C8
 obtain⟨b,o,rfl,R,S⟩:=AV U;clear AV;obtain⟨H,W,X,I,Q,J,D,BC,hlt⟩:=seven (l:=l) U;have y:Hid (rdKind l=(D.toNat:Int)/\Ga l=(Q.toNat:Int)/\Fx l=⟨⟨(H.toNat:Int),AQ [W,X],(I.toNat:Int),(Q.toNat:Int)==1,(J.toNat:Int),(D.toNat:Int),0,0,0,0,0,0,0,0⟩,l.drop 7,false⟩):=by
  unfold Hid;rw[hlt];exact kd H W X I Q J D BC
 have Ai:=hsl.sub (n:=1) (k:=2) U;have AZ:(l.drop 1).take 2=[W,X]:=SF;rw[AZ] at Ai;have j:=S 0 H SF;have AJ:=S 3 I SF;have AL:=S 4 Q SF;have AO:=S 5 J SF;have AP:=S 6 D SF;rw[Ci] at j;clear S hlt AZ;go_in;go_wp2_with fail;refine OW [⟨24,5,105,#[(),(),(),false,(),(),(),(),(),(),(),(),(),()]⟩] [6,25] [0,1,2,3,4,5,7,8,9,10,11,12,13,14,15,16,17,18,19,20,21,22,6,23] [25] (Fr 25 1) AF AF rfl AD AD AF AF AF AF AD AF (AK9 24 5) BK BK ?_;refine Ea ?_;obtain⟨V,hW⟩:∃V,V=(w.alloc (.cells #[(),(),(),false,(),(),(),(),(),(),(),(),(),()] 105)).drew:=⟨_,rfl⟩;have F:AG V w 105 (BP GR):=P8;have A:Below w w V:=VJ;rw[<-hW];clear hW;replace j:=(A.cell (p:=⟨b,o,none⟩) R).trans j;replace AJ:=(A.cell (p:=⟨b,o+3,none⟩) R).trans AJ;replace AL:=(A.cell (p:=⟨b,o+4,none⟩) R).trans AL;replace AO:=(A.cell (p:=⟨b,o+5,none⟩) R).trans AO;replace AP:=(A.cell (p:=⟨b,o+6,none⟩) R).trans AP;have Ar:b<V.heap.size:=Co R A.size;have A9:wrap64 (H.toNat:Int)=(H.toNat:Int):=E5 H;have A_:wrap64 (I.toNat:Int)=(I.toNat:Int):=E5 I;have A':wrap64 (J.toNat:Int)=(J.toNat:Int):=E5 J;have BA:wrap64 (D.toNat:Int)=(D.toNat:Int):=E5 D;repeat refine Yl ?_
 clear A9 A_ A' BA;refine au rfl ?_;intro BG AR K hK;replace F:=F.below AR F.lt;replace A:=AW A AR;clear AR j AJ AL AO AP Ar;go_simp;go_at_call 364;refine(MQ _ _ _ _ (Ai.below A) AH).mono ?_;rintro E BW ⟨rfl,rfl⟩;refine Gt ?_;clear hK K;refine N7 ?_;intro AC AS s Ah Aj Ac;replace F:=F.below AS F.lt;replace A:=AW A AS;clear AS;obtain⟨g,rfl,Av,u⟩:=NS Ah Aj Ac;clear Ah Aj Ac;simp at Av;have Ak:JE w g GR AC:=⟨F,u,A,U⟩;have RL:∀x,AC.cell? ⟨g,x,none⟩=(#[(),(),(),false,(),(),(),(),(),(),(),(),(),()]:Array AB)[x]?:=u.cell;have Y:=u.frozen;clear F u A;refine Ud ?_;intro K hK;simp only[E5];have Z:=AA_ Ak (H.toNat:Int) (AQ [W,X]) (I.toNat:Int) ((Q.toNat:Int)==1) (J.toNat:Int) (D.toNat:Int) 0 0 0 0 0 0 0 0;refine hK _ _ _ AK (pK DL AM _ _ _ _ _ _ _ _ _ _ _ _ _ _) ?_;clear hK K RL Y Ak;refine Dl ?_;generalize (((((((((((((((AC.setCell ⟨g,0,none⟩ H.toNat).setCell ⟨g,1,none⟩ (.int .i64 (AQ [W,X]))).setCell ⟨g,2,none⟩ I.toNat).setCell ⟨g,3,none⟩ (.bool ((Q.toNat:Int)==1))).setCell ⟨g,4,none⟩ J.toNat).setCell ⟨g,5,none⟩ D.toNat).setCell ⟨g,6,none⟩ ()).setCell ⟨g,7,none⟩ ()).setCell ⟨g,8,none⟩ ()).setCell ⟨g,9,none⟩ ()).setCell ⟨g,10,none⟩ ()).setCell ⟨g,11,none⟩ ()).setCell ⟨g,12,none⟩ ()).setCell ⟨g,13,none⟩ ()))=BH at *;have RL:=Z.f.cell;simp only[BP] at RL;go_wp2_with (go_at_call 84;refine(QT _ _).mono ?_;rintro E BX ⟨rfl,Ad⟩)
 replace Z:=Z.next Ad
 clear Ad RL;obtain⟨s,AT⟩:∃s,s=Dc (D.toNat:Int):=⟨_,rfl⟩;have d:=O AT;rw[<-AT];clear AT;have BV:s.size<=6:=by rw[d.o];exact QM _
 go_loopw [6,8] (λBD AX wr=>∃(pos n:Nat) (Aa:Bm),pos<=s.size/\n<=l.length/\AX=.int .i64 pos/\BD=.int .i64 n/\JE w g Aa wr/\Hid ((s.data.toList.take pos).foldl Bq (Fx l)=⟨Aa,l.drop n,false⟩))
  (λ_ AX _=>s.size-(intOf AX).toNat)
 case atStart=>
  refine⟨0,7,_,Az _,U,rfl,rfl,Z,?_⟩;unfold Hid;rw[List.take_zero,List.foldl_nil];exact y.o.2.2
 case round=>
  obtain⟨pos,n,⟨g0,g1,g2,g3,g4,g5,g6,g7,g8,g9,g10,g11,g12,g13⟩,BU,Ay,rfl,rfl,hst,heq⟩:=hrel;clear Z;have RL:∀x,wr.cell? ⟨g,x,none⟩=(#[g0,g1,g2,g3,g4,g5,g6,g7,g8,g9,g10,g11,g12,g13]:Array AB)[x]?:=hst.f.cell;have hcz:∀x,wr.cell? ⟨w,x,none⟩=(#[(),(),(),false,(),(),(),(),(),(),(),(),(),()]:Array AB)[x]?:=hst.z.cell;have Y:=hst.f.frozen;have hfz:=hst.z.frozen;by_cases hlt:pos<s.size
  .have AU:s.data.toList=CF (rdKind l):=by rw[d.o,y.o.1];rfl
   have Ag:s[pos]∈CF (rdKind l):=by
    have Ab:s[pos]∈s.data.toList:=Gq (l:=s.data.toList) (n:=pos) JP;rw[AU] at Ab;exact Ab
   have As:=Of _ _ Ag;clear Ag;have By:Hid ((s.data.toList.take (pos+1)).foldl Bq (Fx l)=Bq ((s.data.toList.take pos).foldl Bq (Fx l)) s[pos]):=by
    refine uO ?_;rfl
   have ZP:Hid ((Bq ⟨⟨g0,g1,g2,g3,g4,g5,g6,g7,g8,g9,g10,g11,g12,g13⟩,l.drop n,false⟩ s[pos]).sh=true->DZ l=false):=by
    intro A1;have A2:CF (rdKind l)=s.data.toList.take pos++s[pos]::s.data.toList.drop (pos+1):=by rw[<-AU];exact AIv s.data.toList pos JP
    refine AB6 A2 ?_;rw[heq.o];exact A1
   clear AU;rcases As with Gj|Gj|Gj|Gj|Gj|Gj|Gj
   .
     by_cases T:(n:Int)+1<=(l.length:Int)
     .have C:=O Y';go_wp2_with fail;refine(MQ _ _ _ _ C.o AM).mono ?_;rintro E N ⟨rfl,rfl⟩;go_wp2;go_roundw
      case rel=>
       go_light;refine⟨pos+1,n+1,{ B9:=g0,num:=g1,BB:=g2,gone:=g3,per:=g4,kind:=g5,st:=AQ ((l.drop n).take 1),fr:=g7,BR:=g8,seat:=g9,share:=g10,cur:=g11,Cm:=g12,ref:=g13 },U,U,A7,A7,hst.put 6 (.int .i64 (AQ ((l.drop n).take 1))) rfl,?_⟩;exact X7
      case measure=>exact A5
     .exact X9
   .by_cases T:(n:Int)+6<=(l.length:Int)
    .
      go_wp2_with fail;refine DB [2,5,8] [0,1,3,4,2,5,6,7,8] g AF AF rfl AD AF BK ?_;refine Ea ?_;clear RL hcz Y hfz;replace hst:=hst.drew;generalize wr.drew=Am at *;have RL:∀x,Am.cell? ⟨g,x,none⟩=(#[g0,g1,g2,g3,g4,g5,g6,g7,g8,g9,g10,g11,g12,g13]:Array AB)[x]?:=hst.f.cell;have Y:=hst.f.frozen;have Ao:=O ((hsl.sub (n:=n) (k:=3) U).below hst.AJ);have e:=(hsl.sub (n:=n+3) (k:=3) U).below hst.AJ;rw[<-Nj,Nat.sub_add_eq] at e;replace e:=O e;refine Cq ?_;intro K hK;go_at_call 364;refine(MQ _ _ _ _ Ao.o AM).mono ?_;rintro E N ⟨rfl,rfl⟩;refine hK _ _ g AK DL ?_;clear hK K;refine Cq ?_;intro K hK;go_at_call 364;refine(MQ _ _ _ _ e.o AM).mono ?_;rintro E N ⟨rfl,rfl⟩;refine hK _ _ g AK DL ?_;clear hK K;refine Cq ?_;intro K hK;refine hK _ _ g AK (((AN g Am).setCell (p:=⟨g,7,none⟩) AK _).setCell (p:=⟨g,8,none⟩) AK _) ?_;clear hK K;refine Dl ?_;go_wp2;go_roundw
      case rel=>
       go_light;refine⟨pos+1,n+6,{ B9:=g0,num:=g1,BB:=g2,gone:=g3,per:=g4,kind:=g5,st:=g6,fr:=AQ ((l.drop n).take 3),BR:=AQ ((l.drop (n+3)).take 3),seat:=g9,share:=g10,cur:=g11,Cm:=g12,ref:=g13 },U,U,A7,A7,(hst.put (f':={ B9:=g0,num:=g1,BB:=g2,gone:=g3,per:=g4,kind:=g5,st:=g6,fr:=AQ ((l.drop n).take 3),BR:=g8,seat:=g9,share:=g10,cur:=g11,Cm:=g12,ref:=g13 }) 7 (.int .i64 (AQ ((l.drop n).take 3))) rfl).put 8 (.int .i64 (AQ ((l.drop (n+3)).take 3))) rfl,?_⟩;refine Rz ?_;exact AGJ U
      case measure=>exact A5
    .have hok:=ZP.o (by rw[Gj];exact AGI AM);exact Xr
   .
     by_cases T:(n:Int)+1<=(l.length:Int)
     .have C:=O Y';go_wp2_with fail;refine(MQ _ _ _ _ C.o AM).mono ?_;rintro E N ⟨rfl,rfl⟩;go_wp2;go_roundw
      case rel=>
       go_light;refine⟨pos+1,n+1,{ B9:=g0,num:=g1,BB:=g2,gone:=g3,per:=g4,kind:=g5,st:=g6,fr:=g7,BR:=g8,seat:=AQ ((l.drop n).take 1),share:=g10,cur:=g11,Cm:=g12,ref:=g13 },U,U,A7,A7,hst.put 9 (.int .i64 (AQ ((l.drop n).take 1))) rfl,?_⟩;exact X7
      case measure=>exact A5
     .exact X9
   .
     by_cases T:(n:Int)+1<=(l.length:Int)
     .have C:=O Y';go_wp2_with fail;refine(MQ _ _ _ _ C.o AM).mono ?_;rintro E N ⟨rfl,rfl⟩;go_wp2;go_roundw
      case rel=>
       go_light;refine⟨pos+1,n+1,{ B9:=g0,num:=g1,BB:=g2,gone:=g3,per:=g4,kind:=g5,st:=g6,fr:=g7,BR:=g8,seat:=g9,share:=AQ ((l.drop n).take 1),cur:=g11,Cm:=g12,ref:=g13 },U,U,A7,A7,hst.put 10 (.int .i64 (AQ ((l.drop n).take 1))) rfl,?_⟩;exact X7
      case measure=>exact A5
     .exact X9
   .
     by_cases T:(n:Int)+2<=(l.length:Int)
     .have C:=O ((hsl.sub (n:=n) (k:=2) U).below hst.AJ);go_wp2_with fail;refine(MQ _ _ _ _ C.o AM).mono ?_;rintro E N ⟨rfl,rfl⟩;go_wp2;go_roundw
      case rel=>
       go_light;refine⟨pos+1,n+2,{ B9:=g0,num:=g1,BB:=g2,gone:=g3,per:=g4,kind:=g5,st:=g6,fr:=g7,BR:=g8,seat:=g9,share:=g10,cur:=AQ ((l.drop n).take 2),Cm:=g12,ref:=g13 },U,U,A7,A7,hst.put 11 (.int .i64 (AQ ((l.drop n).take 2))) rfl,?_⟩;refine Rz ?_;obtain⟨e1,e2,e3⟩:=KM 2 (l.drop n) AM;exact eG
      case measure=>exact A5
     .have hok:=ZP.o (by rw[Gj];simp[Bq,So (k:=2) (l:=l.drop n) AM]);exact Xr
   .
     by_cases T:(n:Int)+4<=(l.length:Int)
     .have C:=O ((hsl.sub (n:=n) (k:=4) U).below hst.AJ);go_wp2_with fail;refine(MQ _ _ _ _ C.o AM).mono ?_;rintro E N ⟨rfl,rfl⟩;go_wp2;go_roundw
      case rel=>
       go_light;refine⟨pos+1,n+4,{ B9:=g0,num:=g1,BB:=g2,gone:=g3,per:=g4,kind:=g5,st:=g6,fr:=g7,BR:=g8,seat:=g9,share:=g10,cur:=g11,Cm:=AQ ((l.drop n).take 4),ref:=g13 },U,U,A7,A7,hst.put 12 (.int .i64 (AQ ((l.drop n).take 4))) rfl,?_⟩;refine Rz ?_;obtain⟨e1,e2,e3⟩:=KM 4 (l.drop n) AM;exact eG
      case measure=>exact A5
     .have hok:=ZP.o (by rw[Gj];simp[Bq,So (k:=4) (l:=l.drop n) AM]);exact Xr
   .
     by_cases T:(n:Int)+1<=(l.length:Int)
     .have C:=O Y';go_wp2_with fail;refine(MQ _ _ _ _ C.o AM).mono ?_;rintro E N ⟨rfl,rfl⟩;go_wp2;go_roundw
      case rel=>
       go_light;refine⟨pos+1,n+1,{ B9:=g0,num:=g1,BB:=g2,gone:=g3,per:=g4,kind:=g5,st:=g6,fr:=g7,BR:=g8,seat:=g9,share:=g10,cur:=g11,Cm:=g12,ref:=AQ ((l.drop n).take 1) },U,U,A7,A7,hst.put 13 (.int .i64 (AQ ((l.drop n).take 1))) rfl,?_⟩;exact X7
      case measure=>exact A5
     .exact X9
  .have AY:Hid (FG l=⟨⟨g0,g1,g2,g3,g4,g5,g6,g7,g8,g9,g10,g11,g12,g13⟩,l.drop n,false⟩):=by
    unfold Hid;have BL:s.data.toList.length=s.size:=AH;have A0:pos=s.data.toList.length:=U;have:=heq.o;rw[A0,F6,d.o,<-y.o.1] at this;exact D2
   have P:=O (ABw AY.o);have L:=(hsl.sub (n:=0) (k:=n) U).below hst.AJ;rw[Ci,Nat.sub_zero,Nh] at L;replace L:=O L;clear heq d;go_wp2_with (go_at_call 365;refine(ACI g0 g1 g2 g3 g4 g5 g6 g7 g8 g9 g10 g11 g12 g13 _).mono ?_;rintro E Al ⟨BF,rfl,M,r,Ax⟩)
   replace L:=O (((L.o.mono hst.AJ.size).below r).mono r.size);replace hst:=hst.next r
   clear RL hcz Y hfz r Ax;rcases a:BY ⟨g0,g1,g2,g3,g4,g5,g6,g7,g8,g9,g10,g11,g12,g13⟩ with _|_
   .have hok:DZ l=false:=by rw[P.o,a];rfl
    rw[show G7 ⟨g0,g1,g2,g3,g4,g5,g6,g7,g8,g9,g10,g11,g12,g13⟩=[] by simp[G7,a]] at M;obtain⟨Ap,Aq,rfl⟩:=CV M;clear M;exact tZ
   .rw[nW a] at M;obtain⟨A4,A6⟩:=dB ⟨g0,g1,g2,g3,g4,g5,g6,g7,g8,g9,g10,g11,g12,g13⟩;rw[a] at P;clear a;generalize DU ⟨g0,g1,g2,g3,g4,g5,g6,g7,g8,g9,g10,g11,g12,g13⟩=f at *;have At:∀G:After Al,(convert 27 9 BF).run prog G.x=.ok (.string ⟨f.toArray⟩) G.x:=λG=>((Af.FI M).below G.h).string;have Au:∀G:After Al,(convert 27 9 (.slice (some ⟨b,o,none⟩) n c)).run prog G.x=.ok (.string ⟨(l.take n).toArray⟩) G.x:=λG=>(L.o.below G.h).string;obtain⟨Ap,Aq,rfl⟩:=CV M;clear M L;obtain⟨k,Ae⟩:∃k,k=f.length:=⟨_,rfl⟩;rw[<-Ae] at At A4 A6 ⊢;clear Ae;have BN:((k:Int)==0)=false:=Aw.2 U;have BO:(k==0)=false:=Aw.2 U;have BQ:¬k=0:=U;by_cases t:f=l.take n
    .have hok:DZ l=true:=by rw[P.o];simp[t]
     rw[<-t] at Au;clear P;refine EZ ?_;repeat (go_big_quiet_step (fail))
     refine Cj ?_;rintro SZ ⟨⟨yE,W5⟩,cU⟩;subst cU;replace hst:=hst.next W5
     clear W5;have hcz:∀x,SZ.cell? ⟨w,x,none⟩=(#[(),(),(),false,(),(),(),(),(),(),(),(),(),()]:Array AB)[x]?:=hst.z.cell;have hfz:=hst.z.frozen;have RL:∀x,SZ.cell? ⟨g,x,none⟩=(#[g0,g1,g2,g3,g4,g5,g6,g7,g8,g9,g10,g11,g12,g13]:Array AB)[x]?:=hst.f.cell;go_wp2;refine BE (v:=.tuple #[.agg (BP ⟨g0,g1,g2,g3,g4,g5,g6,g7,g8,g9,g10,g11,g12,g13⟩),n,true]) (QV results334 _ _ w 105 _ (0,0) _ _ _ rfl rfl rfl (La hst.z g0 g1 g2 g3 g4 g5 g6 g7 g8 g9 g10 g11 g12 g13) underlying105 rfl Ke) rfl ?_;exact ABx AY.o Ay hok (Nx hst.AJ AK g0 g1 g2 g3 g4 g5 g6 g7 g8 g9 g10 g11 g12 g13)
    .have hok:DZ l=false:=by rw[P.o];simp[t]
     clear P;have BT:(f==l.take n)=false:=Aw.2 t;exact tZ
end
section
variable{wr:AA}{g b:Nat}{t:TypeId}{cs:Array AB}
def Jh(l:AE)(n:Nat)(A:n<l.length):AQ (List.take 1 (List.drop n l))=(l[n].toNat:Int):=by
 rw[Kk A];show AQ [l[n]]=_;simp[AQ]
def AJq(H:AG wr b t cs)(A:b≠g)(B C D E F G:Int):AG ((((((wr.setCell ⟨g,0,none⟩ B).setCell ⟨g,1,none⟩ C).setCell ⟨g,2,none⟩ D).setCell ⟨g,3,none⟩ E).setCell ⟨g,4,none⟩ F).setCell ⟨g,5,none⟩ G) b t cs:=((((((H.far (p:=⟨g,0,none⟩) A B).far (p:=⟨g,1,none⟩) A C).far (p:=⟨g,2,none⟩) A D).far (p:=⟨g,3,none⟩) A E).far (p:=⟨g,4,none⟩) A F).far (p:=⟨g,5,none⟩) A G)
def AK2(w:AA):(Instr.alloc 131 true (.tuple #[])).run prog w=.ok (ptrTo w) (w.alloc (.cells #[(),(),(),(),(),()] 131)):=by
 go_simp;rfl
def pX(i d:Nat):∀x∈[(⟨i,d,131,#[(),(),(),(),(),()]⟩:Cb)],∀w,(Instr.alloc x.t true (.tuple #[])).run prog w=.ok (ptrTo w) (w.alloc (.cells x.z x.t)):=by
 intro x A w;simp only[Aj,A',A_] at A;subst A;exact AK2 w
def AAh(v:AB)(l:AE)(w:AA)(W:Af w w v l):AI 282 #[v] w (YF l w):=by
 obtain⟨AZ,c,AR,AL,f⟩:=id W;subst AR;by_cases T:l.length=9
 .obtain⟨b,o,rfl,J,L⟩:=f U;clear f;have N:=L 0 (l[0]' U) (BL U);have e0:(AQ (List.take 1 l))=((l[0]' U).toNat:Int):=by simpa using Jh l 0 U
  generalize (l[0]' U)=C at N e0;rw[Ci] at N;have AS:=W.sub (n:=1) (k:=2) U;obtain⟨G,hz1⟩:∃z,z=AQ ((l.drop 1).take 2):=⟨_,rfl⟩;have e1:(AQ (List.take 2 (List.drop 1 l)))=G:=gV;have AC:=O hz1;clear hz1;have X:=L 3 (l[3]' U) (BL U);have e2:(AQ (List.take 1 (List.drop 2 (List.drop 1 l))))=((l[3]' U).toNat:Int):=by simpa using Jh l 3 U
  generalize (l[3]' U)=D at X e2;have Y:=L 4 (l[4]' U) (BL U);have e3:(AQ (List.take 1 (List.drop 1 (List.drop 2 (List.drop 1 l)))))=((l[4]' U).toNat:Int):=by simpa using Jh l 4 U
  generalize (l[4]' U)=E at Y e3;have Z:=L 5 (l[5]' U) (BL U);have e4:(AQ (List.take 1 (List.drop 1 (List.drop 1 (List.drop 2 (List.drop 1 l))))))=((l[5]' U).toNat:Int):=by simpa using Jh l 5 U
  generalize (l[5]' U)=F at Z e4;have AT:=W.sub (n:=6) (k:=3) U;obtain⟨H,i⟩:∃z,z=AQ ((l.drop 6).take 3):=⟨_,rfl⟩;have e5:(AQ (List.take 3 (List.drop 1 (List.drop 1 (List.drop 1 (List.drop 2 (List.drop 1 l)))))))=H:=by rw[i];try simp
  have AH:=O i;clear i;clear L;rw[T] at AL ⊢;have HLEN:=O T;clear T W;have y:Hid (E0 l=Lm (C.toNat:Int) G (D.toNat:Int) (E.toNat:Int) (F.toNat:Int) H):=by
   unfold Hid E0;exact Xt
  go_in;go_wp2_with fail;refine OW [⟨23,4,131,#[(),(),(),(),(),()]⟩] [6,21,24] [0,1,2,3,4,5,7,8,9,10,11,12,13,14,15,16,17,18,19,20,6,21,22] [24] (Fr 24 1) AF AF rfl AD AD AF AF AF AF AD AF (pX 23 4) BK BK ?_;refine Ea ?_;obtain⟨I,hW⟩:∃I,I=(w.alloc (.cells #[(),(),(),(),(),()] 131)).drew:=⟨_,rfl⟩;have B:AG I w 131 #[(),(),(),(),(),()]:=P8;have A:Below w w I:=VJ;rw[<-hW];clear hW;have Aa:b<I.heap.size:=Co J A.size;replace N:=(A.cell (p:=⟨b,o,none⟩) J).trans N;have Ak:=E5 C;replace X:=(A.cell (p:=⟨b,o+3,none⟩) J).trans X;have Al:=E5 D;replace Y:=(A.cell (p:=⟨b,o+4,none⟩) J).trans Y;have Am:=E5 E;replace Z:=(A.cell (p:=⟨b,o+5,none⟩) J).trans Z;have An:=E5 F;refine HL ?_;intro AU a K hK;replace B:=B.below a B.lt;replace A:=AW A a;clear a;refine Hl ?_;refine(Ev _ _ _ _ (AS.below A) AM).mono ?_;rintro j u1 ⟨rfl,rfl⟩;rw[<-AC.o];refine Gt ?_;clear hK K;refine HL ?_;intro AV d K hK;replace B:=B.below d B.lt;replace A:=AW A d;clear d;refine Hl ?_;refine(Ev _ _ _ _ (AT.below A) AM).mono ?_;rintro j u5 ⟨rfl,rfl⟩;rw[<-AH.o];refine Gt ?_;clear hK K;refine N7 ?_;intro AJ e Ae u x r;replace B:=B.below e B.lt;replace A:=AW A e;clear e;obtain⟨g,rfl,AP,S⟩:=NS u x r;clear u x r;simp at AP;have R:=S.cell;have AO:=S.frozen;refine Ud ?_;intro K hK;have M:=RV rfl S (C.toNat:Int) G (D.toNat:Int) (E.toNat:Int) (F.toNat:Int) H;have hz1:=AJq B (show w.heap.size≠g by omega) (C.toNat:Int) G (D.toNat:Int) (E.toNat:Int) (F.toNat:Int) H;have P:=Nt A (show w.heap.size<=g by omega) (C.toNat:Int) G (D.toNat:Int) (E.toNat:Int) (F.toNat:Int) H;refine hK _ _ _ AK (Nt DL AM (C.toNat:Int) G (D.toNat:Int) (E.toNat:Int) (F.toNat:Int) H) ?_;clear hK K R AO S B A;refine Dl ?_;generalize ((((((AJ.setCell ⟨g,0,none⟩ C.toNat).setCell ⟨g,1,none⟩ G).setCell ⟨g,2,none⟩ D.toNat).setCell ⟨g,3,none⟩ E.toNat).setCell ⟨g,4,none⟩ F.toNat).setCell ⟨g,5,none⟩ H)=AX at *;have R:=M.cell;go_wp2_with fail;refine(ABH (C.toNat:Int) G (D.toNat:Int) (E.toNat:Int) (F.toNat:Int) H _).mono ?_;rintro j AY ⟨Aj,rfl,s,Q⟩;obtain⟨Ag,Ai,Ah,rfl⟩:=(Ck.of s).shape;replace hz1:=hz1.below Q hz1.lt;replace M:=M.below Q M.lt;replace P:=AW P Q;clear Q R s;have Ab:=hz1.cell;have Ac:=hz1.frozen;have R:=M.cell;rw[<-y.o];rcases V:E0 l with _|_
  .go_wp2;refine BE (v:=.tuple #[.agg #[(),(),(),(),(),()],false]) (DT results282 _ _ w 131 _ (0,0) _ _ rfl rfl (RV rfl hz1 0 0 0 0 0 0) underlying131 rfl Q6) rfl ?_;exact Vd V (Nt P AK 0 0 0 0 0 0)
  .go_wp2;refine BE (v:=.tuple #[.agg #[C.toNat,G,D.toNat,E.toNat,F.toNat,H],true]) (DT results282 _ _ w 131 _ (0,0) _ _ rfl rfl (RV rfl hz1 (C.toNat:Int) G (D.toNat:Int) (E.toNat:Int) (F.toNat:Int) H) underlying131 rfl Q6) rfl ?_;exact jP e0 e1 e2 e3 e4 e5 V (Nt P AK (C.toNat:Int) G (D.toNat:Int) (E.toNat:Int) (F.toNat:Int) H)
 .have V:E0 l=false:=by simp[E0,T]
  have Ad:¬(l.length:Int)=9:=U;have B:AG (w.alloc (.cells #[(),(),(),(),(),()] 131)) w 131 #[(),(),(),(),(),()]:=AG.new _ _ _;clear f;go_in;go_wp2;refine BE (v:=.tuple #[.agg #[(),(),(),(),(),()],false]) (DT results282 _ _ w 131 _ (0,0) _ _ rfl rfl B underlying131 rfl Q6) rfl ?_;exact Vd V C8
def ABj(E:AG wr b t cs)(A:b≠g)(B C D:Int):AG (((wr.setCell ⟨g,0,none⟩ B).setCell ⟨g,1,none⟩ C).setCell ⟨g,2,none⟩ D) b t cs:=(((E.far (p:=⟨g,0,none⟩) A B).far (p:=⟨g,1,none⟩) A C).far (p:=⟨g,2,none⟩) A D)
def AKx(w:AA):(Instr.alloc 358 true (.tuple #[])).run prog w=.ok (ptrTo w) (w.alloc (.cells #[(),(),()] 358)):=by
 go_simp;rfl
def AK5(i d:Nat):∀x∈[(⟨i,d,358,#[(),(),()]⟩:Cb)],∀w,(Instr.alloc x.t true (.tuple #[])).run prog w=.ok (ptrTo w) (w.alloc (.cells x.z x.t)):=by
 intro x A w;simp only[Aj,A',A_] at A;subst A;exact AKx w
def AAe(v:AB)(l:AE)(w:AA)(Q:Af w w v l):AI 283 #[v] w (YB l w):=by
 obtain⟨AV,c,AL,AC,W⟩:=id Q;subst AL;by_cases N:l.length=8
 .obtain⟨b,o,rfl,d,e⟩:=W U;clear W;have H:=e 0 (l[0]' U) (BL U);have R:(AQ (List.take 1 l))=((l[0]' U).toNat:Int):=by simpa using Jh l 0 U
  generalize (l[0]' U)=C at H R;rw[Ci] at H;have AO:=Q.sub (n:=1) (k:=2) U;obtain⟨D,hz1⟩:∃z,z=AQ ((l.drop 1).take 2):=⟨_,rfl⟩;have Y:(AQ (List.take 2 (List.drop 1 l)))=D:=gV;have u:=O hz1;clear hz1;have AP:=Q.sub (n:=3) (k:=5) U;obtain⟨E,hz2⟩:∃z,z=AQ ((l.drop 3).take 5):=⟨_,rfl⟩;have Z:(AQ (List.take 5 (List.drop 2 (List.drop 1 l))))=E:=gU;have x:=O hz2;clear hz2;clear e;rw[N] at AC ⊢;have r:=O N;clear N Q;have s:Hid (Fw l=LJ (C.toNat:Int) D E):=by
   unfold Hid Fw;rw[R,Y,Z,r.o];rfl
  go_in;go_wp2_with fail;refine OW [⟨11,4,358,#[(),(),()]⟩] [6,9,12] [0,1,2,3,4,5,7,8,6,9,10] [12] (Fr 12 1) AF AF rfl AD AD AF AF AF AF AD AF (AK5 11 4) BK BK ?_;refine Ea ?_;obtain⟨F,hW⟩:∃F,F=(w.alloc (.cells #[(),(),()] 358)).drew:=⟨_,rfl⟩;have A:AG F w 358 #[(),(),()]:=P8;have B:Below w w F:=VJ;rw[<-hW];clear hW;have AX:b<F.heap.size:=Co d B.size;replace H:=(B.cell (p:=⟨b,o,none⟩) d).trans H;have Ah:=E5 C;refine HL ?_;intro AR S K hK;replace A:=A.below S A.lt;replace B:=AW B S;clear S;refine Hl ?_;refine(Ev _ _ _ _ (AO.below B) AM).mono ?_;rintro X u1 ⟨rfl,rfl⟩;rw[<-u.o];refine Gt ?_;clear hK K;refine HL ?_;intro AS T K hK;replace A:=A.below T A.lt;replace B:=AW B T;clear T;refine Hl ?_;refine(Ev _ _ _ _ (AP.below B) AM).mono ?_;rintro X u2 ⟨rfl,rfl⟩;rw[<-x.o];refine Gt ?_;clear hK K;refine N7 ?_;intro y V Ab i j a;replace A:=A.below V A.lt;replace B:=AW B V;clear V;obtain⟨g,rfl,AJ,M⟩:=NS i j a;clear i j a;simp at AJ;have L:=M.cell;have AH:=M.frozen;refine Ud ?_;intro K hK;have G:=S3 rfl M (C.toNat:Int) D E;have hz1:=ABj A (show w.heap.size≠g by omega) (C.toNat:Int) D E;have I:=QW B (show w.heap.size<=g by omega) (C.toNat:Int) D E;refine hK _ _ _ AK (QW DL AM (C.toNat:Int) D E) ?_;clear hK K L AH M A B;refine Dl ?_;generalize (((y.setCell ⟨g,0,none⟩ C.toNat).setCell ⟨g,1,none⟩ D).setCell ⟨g,2,none⟩ E)=AT at *;have L:=G.cell;go_wp2_with fail;refine(ABE (C.toNat:Int) D E _).mono ?_;rintro X AU ⟨Ag,rfl,f,J⟩;obtain⟨Ac,Ae,Ad,rfl⟩:=(Ck.of f).shape;replace hz1:=hz1.below J hz1.lt;replace G:=G.below J G.lt;replace I:=AW I J;clear J L f;have AY:=hz1.cell;have AZ:=hz1.frozen;have L:=G.cell;rw[<-s.o];rcases P:Fw l with _|_
  .go_wp2;refine BE (v:=.tuple #[.agg #[(),(),()],false]) (DT results283 _ _ w 358 _ (0,0) _ _ rfl rfl (S3 rfl hz1 0 0 0) underlying358 rfl Q3) rfl ?_;exact Va P (QW I AK 0 0 0)
  .go_wp2;refine BE (v:=.tuple #[.agg #[C.toNat,D,E],true]) (DT results283 _ _ w 358 _ (0,0) _ _ rfl rfl (S3 rfl hz1 (C.toNat:Int) D E) underlying358 rfl Q3) rfl ?_;exact jM R Y Z P (QW I AK (C.toNat:Int) D E)
 .have P:Fw l=false:=by simp[Fw,N]
  have Aa:¬(l.length:Int)=8:=U;have A:AG (w.alloc (.cells #[(),(),()] 358)) w 358 #[(),(),()]:=AG.new _ _ _;clear W;go_in;go_wp2;refine BE (v:=.tuple #[.agg #[(),(),()],false]) (DT results283 _ _ w 358 _ (0,0) _ _ rfl rfl A underlying358 rfl Q3) rfl ?_;exact Va P C8
def ABo(H:AG wr b t cs)(A:b≠g)(B C D E F G:Int):AG ((((((wr.setCell ⟨g,0,none⟩ B).setCell ⟨g,1,none⟩ C).setCell ⟨g,2,none⟩ D).setCell ⟨g,3,none⟩ E).setCell ⟨g,4,none⟩ F).setCell ⟨g,5,none⟩ G) b t cs:=((((((H.far (p:=⟨g,0,none⟩) A B).far (p:=⟨g,1,none⟩) A C).far (p:=⟨g,2,none⟩) A D).far (p:=⟨g,3,none⟩) A E).far (p:=⟨g,4,none⟩) A F).far (p:=⟨g,5,none⟩) A G)
def AKy(w:AA):(Instr.alloc 362 true (.tuple #[])).run prog w=.ok (ptrTo w) (w.alloc (.cells #[(),(),(),(),(),()] 362)):=by
 go_simp;rfl
def AK6(i d:Nat):∀x∈[(⟨i,d,362,#[(),(),(),(),(),()]⟩:Cb)],∀w,(Instr.alloc x.t true (.tuple #[])).run prog w=.ok (ptrTo w) (w.alloc (.cells x.z x.t)):=by
 intro x A w;simp only[Aj,A',A_] at A;subst A;exact AKy w
def AAf(v:AB)(l:AE)(w:AA)(J:Af w w v l):AI 284 #[v] w (YC l w):=by
 obtain⟨Aj,c,AX,AT,j⟩:=id J;subst AX;by_cases V:l.length=16
 .obtain⟨b,o,rfl,f,i⟩:=j U;clear j;have N:=i 0 (l[0]' U) (BL U);have e0:(AQ (List.take 1 l))=((l[0]' U).toNat:Int):=by simpa using Jh l 0 U
  generalize (l[0]' U)=C at N e0;rw[Ci] at N;have X:=i 1 (l[1]' U) (BL U);have e1:(AQ (List.take 1 (List.drop 1 l)))=((l[1]' U).toNat:Int):=by simpa using Jh l 1 U
  generalize (l[1]' U)=D at X e1;have AY:=J.sub (n:=2) (k:=2) U;obtain⟨E,hz2⟩:∃z,z=AQ ((l.drop 2).take 2):=⟨_,rfl⟩;have e2:(AQ (List.take 2 (List.drop 1 (List.drop 1 l))))=E:=gU;have AL:=O hz2;clear hz2;have AZ:=J.sub (n:=4) (k:=2) U;obtain⟨F,r⟩:∃z,z=AQ ((l.drop 4).take 2):=⟨_,rfl⟩;have e3:(AQ (List.take 2 (List.drop 2 (List.drop 1 (List.drop 1 l)))))=F:=by rw[r];try simp
  have AO:=O r;clear r;have Aa:=J.sub (n:=6) (k:=5) U;obtain⟨G,s⟩:∃z,z=AQ ((l.drop 6).take 5):=⟨_,rfl⟩;have e4:(AQ (List.take 5 (List.drop 2 (List.drop 2 (List.drop 1 (List.drop 1 l))))))=G:=by rw[s];try simp
  have AP:=O s;clear s;have Ab:=J.sub (n:=11) (k:=5) U;obtain⟨H,u⟩:∃z,z=AQ ((l.drop 11).take 5):=⟨_,rfl⟩;have e5:(AQ (List.take 5 (List.drop 5 (List.drop 2 (List.drop 2 (List.drop 1 (List.drop 1 l)))))))=H:=by rw[u];try simp
  have AR:=O u;clear u;clear i;rw[V] at AT ⊢;have HLEN:=O V;clear V J;have AJ:Hid (Es l=LK (C.toNat:Int) (D.toNat:Int) E F G H):=by
   unfold Hid Es;exact Xt
  go_in;go_wp2_with fail;refine OW [⟨21,4,362,#[(),(),(),(),(),()]⟩] [10,13,16,19,22] [0,1,2,3,4,5,6,7,8,9,11,12,14,15,17,18,10,13,16,19,20] [22] (Fr 22 1) AF AF rfl AD AD AF AF AF AF AD AF (AK6 21 4) BK BK ?_;refine Ea ?_;obtain⟨L,hW⟩:∃L,L=(w.alloc (.cells #[(),(),(),(),(),()] 362)).drew:=⟨_,rfl⟩;have B:AG L w 362 #[(),(),(),(),(),()]:=P8;have A:Below w w L:=VJ;rw[<-hW];clear hW;have Ak:b<L.heap.size:=Co f A.size;replace N:=(A.cell (p:=⟨b,o,none⟩) f).trans N;have At:=E5 C;replace X:=(A.cell (p:=⟨b,o+1,none⟩) f).trans X;have Au:=E5 D;refine HL ?_;intro Ac Y K hK;replace B:=B.below Y B.lt;replace A:=AW A Y;clear Y;refine Hl ?_;refine(Ev _ _ _ _ (AY.below A) AM).mono ?_;rintro P u2 ⟨rfl,rfl⟩;rw[<-AL.o];refine Gt ?_;clear hK K;refine HL ?_;intro Ad Z K hK;replace B:=B.below Z B.lt;replace A:=AW A Z;clear Z;refine Hl ?_;refine(Ev _ _ _ _ (AZ.below A) AM).mono ?_;rintro P u3 ⟨rfl,rfl⟩;rw[<-AO.o];refine Gt ?_;clear hK K;refine HL ?_;intro Ae a K hK;replace B:=B.below a B.lt;replace A:=AW A a;clear a;refine Hl ?_;refine(Ev _ _ _ _ (Aa.below A) AM).mono ?_;rintro P u4 ⟨rfl,rfl⟩;rw[<-AP.o];refine Gt ?_;clear hK K;refine HL ?_;intro Ag d K hK;replace B:=B.below d B.lt;replace A:=AW A d;clear d;refine Hl ?_;refine(Ev _ _ _ _ (Ab.below A) AM).mono ?_;rintro P u5 ⟨rfl,rfl⟩;rw[<-AR.o];refine Gt ?_;clear hK K;refine N7 ?_;intro AS e Ao AC AH x;replace B:=B.below e B.lt;replace A:=AW A e;clear e;obtain⟨g,rfl,AV,T⟩:=NS AC AH x;clear AC AH x;simp at AV;have S:=T.cell;have AU:=T.frozen;refine Ud ?_;intro K hK;have M:=S5 rfl T (C.toNat:Int) (D.toNat:Int) E F G H;have I:=ABo B (show w.heap.size≠g by omega) (C.toNat:Int) (D.toNat:Int) E F G H;have Q:=QX A (show w.heap.size<=g by omega) (C.toNat:Int) (D.toNat:Int) E F G H;refine hK _ _ _ AK (QX DL AM (C.toNat:Int) (D.toNat:Int) E F G H) ?_;clear hK K S AU T B A;refine Dl ?_;generalize ((((((AS.setCell ⟨g,0,none⟩ C.toNat).setCell ⟨g,1,none⟩ D.toNat).setCell ⟨g,2,none⟩ E).setCell ⟨g,3,none⟩ F).setCell ⟨g,4,none⟩ G).setCell ⟨g,5,none⟩ H)=Ah at *;have S:=M.cell;go_wp2_with fail;refine(ABF (C.toNat:Int) (D.toNat:Int) E F G H _).mono ?_;rintro P Ai ⟨As,rfl,y,R⟩;obtain⟨Ap,Ar,Aq,rfl⟩:=(Ck.of y).shape;replace I:=I.below R I.lt;replace M:=M.below R M.lt;replace Q:=AW Q R;clear R S y;have Al:=I.cell;have Am:=I.frozen;have S:=M.cell;rw[<-AJ.o];rcases W:Es l with _|_
  .go_wp2;refine BE (v:=.tuple #[.agg #[(),(),(),(),(),()],false]) (DT results284 _ _ w 362 _ (0,0) _ _ rfl rfl (S5 rfl I 0 0 0 0 0 0) underlying362 rfl Q4) rfl ?_;exact Vb W (QX Q AK 0 0 0 0 0 0)
  .go_wp2;refine BE (v:=.tuple #[.agg #[C.toNat,D.toNat,E,F,G,H],true]) (DT results284 _ _ w 362 _ (0,0) _ _ rfl rfl (S5 rfl I (C.toNat:Int) (D.toNat:Int) E F G H) underlying362 rfl Q4) rfl ?_;exact jN e0 e1 e2 e3 e4 e5 W (QX Q AK (C.toNat:Int) (D.toNat:Int) E F G H)
 .have W:Es l=false:=by simp[Es,V]
  have An:¬(l.length:Int)=16:=U;have B:AG (w.alloc (.cells #[(),(),(),(),(),()] 362)) w 362 #[(),(),(),(),(),()]:=AG.new _ _ _;clear j;go_in;go_wp2;refine BE (v:=.tuple #[.agg #[(),(),(),(),(),()],false]) (DT results284 _ _ w 362 _ (0,0) _ _ rfl rfl B underlying362 rfl Q4) rfl ?_;exact Vb W C8
def AFL(F:AG wr b t cs)(A:b≠g)(B C D E:Int):AG ((((wr.setCell ⟨g,0,none⟩ B).setCell ⟨g,1,none⟩ C).setCell ⟨g,2,none⟩ D).setCell ⟨g,3,none⟩ E) b t cs:=((((F.far (p:=⟨g,0,none⟩) A B).far (p:=⟨g,1,none⟩) A C).far (p:=⟨g,2,none⟩) A D).far (p:=⟨g,3,none⟩) A E)
def AKz(w:AA):(Instr.alloc 366 true (.tuple #[])).run prog w=.ok (ptrTo w) (w.alloc (.cells #[(),(),(),()] 366)):=by
 go_simp;rfl
def AK7(i d:Nat):∀x∈[(⟨i,d,366,#[(),(),(),()]⟩:Cb)],∀w,(Instr.alloc x.t true (.tuple #[])).run prog w=.ok (ptrTo w) (w.alloc (.cells x.z x.t)):=by
 intro x A w;simp only[Aj,A',A_] at A;subst A;exact AKz w
def AAg(v:AB)(l:AE)(w:AA)(I:Af w w v l):AI 285 #[v] w (YD l w):=by
 obtain⟨Ad,c,AT,AP,Z⟩:=id I;subst AT;by_cases Q:l.length=14
 .obtain⟨b,o,rfl,r,s⟩:=Z U;clear Z;have J:=s 0 (l[0]' U) (BL U);have T:(AQ (List.take 1 l))=((l[0]' U).toNat:Int):=by simpa using Jh l 0 U
  generalize (l[0]' U)=D at J T;rw[Ci] at J;have AU:=I.sub (n:=1) (k:=2) U;obtain⟨E,hz1⟩:∃z,z=AQ ((l.drop 1).take 2):=⟨_,rfl⟩;have e:(AQ (List.take 2 (List.drop 1 l)))=E:=gV;have AJ:=O hz1;clear hz1;have AV:=I.sub (n:=3) (k:=5) U;obtain⟨F,hz2⟩:∃z,z=AQ ((l.drop 3).take 5):=⟨_,rfl⟩;have f:(AQ (List.take 5 (List.drop 2 (List.drop 1 l))))=F:=gU;have AL:=O hz2;clear hz2;have AX:=I.sub (n:=8) (k:=6) U;obtain⟨C,a⟩:∃z,z=AQ ((l.drop 8).take 6):=⟨_,rfl⟩;have i:(AQ (List.take 6 (List.drop 5 (List.drop 2 (List.drop 1 l))))-1000000000000)=(C-1000000000000):=by rw[a];try simp
  have d:=O a;clear a;clear s;rw[Q] at AP ⊢;have AC:=O Q;clear Q I;have Ae:0<=C/\C<281474976710656:=by rw[d.o];exact bm (l.drop 8) 6 AD
  have AH:Hid (Fc l=LR (D.toNat:Int) E F (C-1000000000000)):=by
   unfold Hid Fc;rw[T,e,f,i,AC.o];rfl
  go_in;go_wp2_with fail;refine OW [⟨15,4,366,#[(),(),(),()]⟩] [6,9,12,16] [0,1,2,3,4,5,7,8,10,11,6,9,12,13,14] [16] (Fr 16 1) AF AF rfl AD AD AF AF AF AF AD AF (AK7 15 4) BK BK ?_;refine Ea ?_;obtain⟨G,hW⟩:∃G,G=(w.alloc (.cells #[(),(),(),()] 366)).drew:=⟨_,rfl⟩;have A:AG G w 366 #[(),(),(),()]:=P8;have B:Below w w G:=VJ;rw[<-hW];clear hW;have Ag:b<G.heap.size:=Co r B.size;replace J:=(B.cell (p:=⟨b,o,none⟩) r).trans J;have Ap:=E5 D;refine HL ?_;intro AY V K hK;replace A:=A.below V A.lt;replace B:=AW B V;clear V;refine Hl ?_;refine(Ev _ _ _ _ (AU.below B) AM).mono ?_;rintro S u1 ⟨rfl,rfl⟩;rw[<-AJ.o];refine Gt ?_;clear hK K;refine HL ?_;intro AZ W K hK;replace A:=A.below W A.lt;replace B:=AW B W;clear W;refine Hl ?_;refine(Ev _ _ _ _ (AV.below B) AM).mono ?_;rintro S u2 ⟨rfl,rfl⟩;rw[<-AL.o];refine Gt ?_;clear hK K;refine HL ?_;intro Aa X K hK;replace A:=A.below X A.lt;replace B:=AW B X;clear X;refine Hl ?_;refine(Ev _ _ _ _ (AX.below B) AM).mono ?_;rintro S u3 ⟨rfl,rfl⟩;rw[<-d.o];refine Gt ?_;clear hK K;refine N7 ?_;intro AO Y Ak x y j;replace A:=A.below Y A.lt;replace B:=AW B Y;clear Y;obtain⟨g,rfl,AS,P⟩:=NS x y j;clear x y j;simp at AS;have N:=P.cell;have AR:=P.frozen;refine Ud ?_;intro K hK;have H:=TR rfl P (D.toNat:Int) E F (C-1000000000000);have hz1:=AFL A (show w.heap.size≠g by omega) (D.toNat:Int) E F (C-1000000000000);have L:=Qk B (show w.heap.size<=g by omega) (D.toNat:Int) E F (C-1000000000000);refine hK _ _ _ AK (Qk DL AM (D.toNat:Int) E F (C-1000000000000)) ?_;clear hK K N AR P A B;refine Dl ?_;generalize ((((AO.setCell ⟨g,0,none⟩ D.toNat).setCell ⟨g,1,none⟩ E).setCell ⟨g,2,none⟩ F).setCell ⟨g,3,none⟩ (.int .i64 (C-1000000000000)))=Ab at *;have N:=H.cell;go_wp2_with fail;refine(ABG (D.toNat:Int) E F (C-1000000000000) _).mono ?_;rintro S Ac ⟨Ao,rfl,u,M⟩;obtain⟨Al,An,Am,rfl⟩:=(Ck.of u).shape;replace hz1:=hz1.below M hz1.lt;replace H:=H.below M H.lt;replace L:=AW L M;clear M N u;have Ah:=hz1.cell;have Ai:=hz1.frozen;have N:=H.cell;rw[<-AH.o];rcases R:Fc l with _|_
  .go_wp2;refine BE (v:=.tuple #[.agg #[(),(),(),()],false]) (DT results285 _ _ w 366 _ (0,0) _ _ rfl rfl (TR rfl hz1 0 0 0 0) underlying366 rfl Q5) rfl ?_;exact Vc R (Qk L AK 0 0 0 0)
  .go_wp2;refine BE (v:=.tuple #[.agg #[D.toNat,E,F,.int .i64 (C-1000000000000)],true]) (DT results285 _ _ w 366 _ (0,0) _ _ rfl rfl (TR rfl hz1 (D.toNat:Int) E F (C-1000000000000)) underlying366 rfl Q5) rfl ?_;exact jO T e f i R (Qk L AK (D.toNat:Int) E F (C-1000000000000))
 .have R:Fc l=false:=by simp[Fc,Q]
  have Aj:¬(l.length:Int)=14:=U;have A:AG (w.alloc (.cells #[(),(),(),()] 366)) w 366 #[(),(),(),()]:=AG.new _ _ _;clear Z;go_in;go_wp2;refine BE (v:=.tuple #[.agg #[(),(),(),()],false]) (DT results285 _ _ w 366 _ (0,0) _ _ rfl rfl A underlying366 rfl Q5) rfl ?_;exact Vc R C8
end
def AH9(f:Bm):decide ((0:Int)<((G7 f).length:Int))=BY f:=by
 cases A:BY f
 .simp[G7,A]
 .have:=(dB f).1;rw[nW A];simp;omega
def AFF(f:Bm)(w:AA):AI 77 #[.agg (BP f)] w (Un (G7 f) (BY f) w):=by
 have d:=O (AH9 f);obtain⟨D,E,J,K,L,M,N,P,Q,R,F,G,H,I⟩:=f;simp only[BP];have X:=O (AKI D E J K L M N P Q R F G H I);generalize BY ⟨D,E,J,K,L,M,N,P,Q,R,F,G,H,I⟩=b at *;generalize G7 ⟨D,E,J,K,L,M,N,P,Q,R,F,G,H,I⟩=e at *;obtain⟨C,W⟩:∃C,C=e.length:=⟨_,rfl⟩;have Z:b=decide (0<C):=by rw[W,<-d.o];simp
 have B:=O W;have Y:=O Z;clear W Z;have key:∀(a:BH) (c:Nat),True:=λ_ _=>trivial;rcases Mf C with S|S
 .subst S;go_in;go_wp2_with (go_at_call 138;refine(X.o _).mono ?_;rintro g l ⟨k,rfl,A,V,i⟩;obtain⟨a,c,rfl⟩:=CV A;rw[<-B.o])
  go_ret2;have T:=AW C8 V;rw[<-B.o] at A;refine⟨_,by rw[Y.o];rfl,by rw[<-B.o];exact Gc A (by simp),T⟩
 .have m:(0:Int)<(C:Int):=U;go_in;go_wp2_with (go_at_call 138;refine(X.o _).mono ?_;rintro g l ⟨k,rfl,A,V,i⟩;obtain⟨a,c,rfl⟩:=CV A;rw[<-B.o])
  go_ret2;have T:=AW C8 V;rw[<-B.o] at A;have j:b=true:=by rw[Y.o];simpa using S
  refine⟨_,by rw[j];rfl,by rw[<-B.o];exact Gc A (by simp),T⟩
