import Derived.Test.YtcpcgpbohiineaaGreatDoorY12
namespace Go.Proofs.YtcpcgpbohiineaaGreatDoor
open Go.RowKit Go.Proofs.Tryz
set_option linter.all false
set_option maxRecDepth 100000
set_option maxHeartbeats 4000000
def td(w:AA)(e:Ending)(A:AA):Prop:=e=.returned (.tuple #[(),()])/\Below w w A
def AAk(B:Nat)(x:CL)(w:AA)(v:AB)(h:Dh B w x.A0 v)(Q:NH x=true):
 AI 56 #[.agg #[AR x.name,x.cur,v]] w (td w):=by
 have D:=aT Q;have G:=Sj D.ok;obtain⟨a,c,rfl,q⟩:=h.slice;have AC:=O (JQ.new (x:=x) h);have V:=O G.A0;have I:=O D;have T:=O (λw v h=>j0 B x w v h D.ok);have u:=G.l2;clear h Q D G;unfold AR at AC ⊢;obtain⟨b0,b1,b2,hbl⟩:=AC.o.blk.y3;go_in;go_wp2_with fail;refine(T.o _ _ AC.o.A0).mono ?_;rintro en S ⟨rfl,hb1⟩;replace AC:=O Bg;clear hb1 b0 b1 b2 hbl;go_wp2_with fail;go_loopw [4] (λy wr=>∃i:Nat,y=.int .i64 (i:Int)/\i<=x.A0.length/\JQ B w wr x w (.slice a x.A0.length c)) (λy _=>x.A0.length-(intOf y).toNat)
 case atStart=>exact⟨0,rfl,Az _,AC.o⟩
 case round=>
  clear AC;obtain⟨i,rfl,hi,L⟩:=hrel;have AC:=O L;clear L;unfold AR at AC;obtain⟨b0,b1,b2,hbl⟩:=AC.o.blk.y3;by_cases hlt:i<x.A0.length
  .have dl:=Ar i x.A0.length;obtain⟨y,A⟩:=BQ x.A0 i hlt;obtain⟨g,Y,t⟩:=AS.Ch AC.o.A0 (λ_ _ E=>E.len) i y A;subst Y;obtain⟨AQ,r,Z,M⟩:=AS.BT AC.o.A0 (λ_ _ E=>E.len) i y A;obtain⟨z,AE,AF,AG,AJ,rfl,C⟩:=Z;have A2:=O C;have AMw:=O (V.o y (Bu A));obtain⟨env,D⟩:=jA (I.o.A0 y (Bu A));have AMx:=O D;obtain⟨AK,J,rfl,_⟩:=C.c1.slice;obtain⟨AL,e,rfl,_⟩:=C.c2.slice;obtain⟨AM,f,rfl,_⟩:=C.c3.slice;obtain⟨AO,k,rfl,_⟩:=C.c4.slice;obtain⟨AP,n,rfl,_⟩:=C.c5.slice;obtain⟨q0,q1,q2,q3,q4,q5,q6,kj⟩:=VN M;clear M C D;by_cases K:i=0
   .have W:=A4 0 i;have X:decide (0<i)=false:=DI U;clear A K;go_wp2_with fail;go_quiet (fail)
    have Hy:Below wr wr (wr.drewN nq):=Do DL _;replace A2:=O Y1;replace AC:=O R3;exact q_
   .obtain⟨j,P⟩:∃j,i=j+1:=⟨i-1,U⟩;have W:=Ar 0 i;have X:decide (0<i)=true:=CA U;obtain⟨F,H⟩:∃F,x.A0[j]? = some F:=⟨_,BL U⟩;obtain⟨AT,_,d,N⟩:=AS.BT AC.o.A0 (λ_ _ E=>E.len) j F H;obtain⟨_,_,_,_,_,rfl,_⟩:=d;have R:=N 0 AD;simp only[Ci,A8] at R;have J:decide (y.fr<=F.fr)=false:=DI (by rw[P] at A;have:=I.o.fr j F y H A;omega);have s:j<x.A0.length:=U;have S:IntKind.i64.wrap ((i:Int)-1)=(j:Int):=by rw[RC _ U];omega
    clear N H A P K;go_wp2_with fail;go_quiet (fail)
    have Hy:Below wr wr (wr.drewN nq):=Do DL _;replace A2:=O Y1;replace AC:=O R3;clear R J S;exact q_
  .exact rq
section
open Go.RowKit Go.Shelf
attribute [local go_sem] Oper.semAt_some
def Xc{β:Type}(g t:Nat)(cs:β->Array AB):Own (λs W=>AG W g t (cs s)):=λs C H row B F G=>
 AG.grown B F (λD=>by obtain⟨o,A,E⟩:=G g D.symm;rw[show C.heap[g]? = _ from B] at A;cases A;cases E)
def CQ.AKO{B:Nat}{w:AA}{A:Env}{v:AB}(h:CQ B w A v):VK w w v A/\∀a m c,v=.slice a m c->A.length<=c:=by
 obtain⟨a,c,rfl,L⟩:=AS.slice h;refine⟨?_,λR W S J=>by cases J;exact L⟩;by_cases G:A=[]
 .obtain⟨X,U,K⟩:=h;subst G;rcases K.2 with ⟨F,_⟩|⟨C,I,cur,F,V,D,_⟩
  .exact .inl ⟨F,rfl⟩
  .exact .inr ⟨C,I,F,AG.lt (t:=326) (cs:=cur) D,λi H E=>by cases E⟩
 .obtain⟨H,E⟩:=BQ A 0 (List.length_pos_iff.2 G);obtain⟨C,rfl,_,D,_⟩:=h.cells 0 H E;refine .inr ⟨C,c,rfl,D,λi O N=>?_⟩;obtain⟨T,M,_,_,P,Q⟩:=h.cells i O N;cases M;exact⟨P,Q⟩
def AF5{B J:Env}{q:AE × Int}{s:AE}(E:∀p∈B,p.1≠s)(G:q.1=s):(B++q::J).lookup s=some q.2:=by
 induction B with
 | nil=>
  obtain⟨A,D⟩:=q;have C:(s==A)=true:=by simpa using G.symm
  simp[List.lookup,C]
 | cons p B I=>
  obtain⟨A,D⟩:=p;have C:(s==A)=false:=by simpa using λF=>E (A,D) D0 F.symm
  simp only[DC,List.lookup,C];exact I (λp H=>E p (Dq _ H))
def AF4{l:Env}{s:AE}(B:∀p∈l,p.1≠s):l.lookup s=none:=by
 induction l with
 | nil=>rfl
 | cons p l G=>
  obtain⟨A,C⟩:=p;have D:(s==A)=false:=by simpa using λE=>B (A,C) D0 E.symm
  simp only[List.lookup,D];exact G (λp F=>B p (Dq _ F))
def jJ(A:Env)(k:Nat)(F:k<=A.length):(upto (Kr A) k).map (·.2)=A.reverse.take k:=by
 apply List.ext_getElem
 .simp[upto];omega
 .intro C B D;have E:C<A.length:=by simp[upto] at B;omega
  simp only[upto,Kr,List.getElem_map,List.getElem_range,List.getElem_take,List.getElem_reverse];rw[BL U];rfl
def AF7{A:Env}{s:AE}{x:Int}(E:GE.lookup s=none)(B:Iz s A=some x)(h:∀p∈upto (Kr A) A.length,p.2.1≠s):False:=by
 unfold Iz at B;rw[E] at B;have D:A.reverse.lookup s=none:=by
  refine AF4 (λp C=>?_);rw[<-F6 (l:=A.reverse),List.length_reverse,<-jJ A _ AK] at C;obtain⟨G,F,rfl⟩:=Gr.1 C;exact h G F
 simp only at B;rw[D] at B;cases B
def AF9{A:Env}{s:AE}{x:Int}{k:Nat}{D:List MA}{C:MA}(J:GE.lookup s=none)(B:Iz s A=some x)(K:k<=A.length)(I:upto (Kr A) k=D++[C])(F:∀p∈D,p.2.1≠s)(G:C.2.1=s):C.2.2=x:=by
 unfold Iz at B;rw[J] at B;simp only at B;have E:=jJ A k K;rw[I,Li] at E;have H:A.reverse=D.map (·.2)++C.2::A.reverse.drop k:=by
  conv=>lhs;rw[<-Md k A.reverse,<-E]
  simp
 rw[H,AF5 (λp L=>by obtain⟨N,M,rfl⟩:=Gr.1 L;exact F N M) G] at B;simpa using B
def ADl(B:Nat)(C:Env)(a:BH)(c:Nat)(Ae:C.length<=1000)(s:AE)(x:Int)(w:AA)(Ab:CQ B w C (.slice a C.length c))(Aj:Iz s C=some x)(Ac:GE.lookup s=none):
 CallsIn Fence.wide 5 prog 353 #[.string ⟨s.toArray⟩,.slice a C.length c] w (Bz (.tuple #[x,true]) w):=by
 have Z:Fence.wide.round=none:=rfl;have g:=O Ac;have o:=O Aj;have AC:=O Ab;refine callsIn_of_wp_marks func353 rfl trivial ?_ Z;refine uf ?_;gi_wp2_with fail
 refine⟨trivial,?_⟩;refine(Nd.2 (bJ s _)).mono ?_;unfold L3;rw[g.o];rintro e w' ⟨rfl,rfl⟩;gi_wp2_with fail
 refine⟨trivial,?_⟩;refine(AKe Fence.wide 4 trivial Z _ _ _ _).mono ?_;rintro e w' ⟨rfl,rfl⟩;gi_wp2_with fail
 have D:=AG.new w 9 #[.string ⟨s.toArray⟩];have AW:Below w w (w.alloc (.cells #[.string ⟨s.toArray⟩] 9)):=(AN _ _).alloc AK _;have Av:(w.alloc (.cells #[.string ⟨s.toArray⟩] 9)).heap.size=w.heap.size+1:=AH;generalize w.alloc (.cells #[.string ⟨s.toArray⟩] 9)=F at *;have E:=AG.new F 3 #[()];have u:Below F F (F.alloc (.cells #[()] 3)):=(AN _ _).alloc AK _;have Aw:(F.alloc (.cells #[()] 3)).heap.size=F.heap.size+1:=AH;replace D:=D.below u D.lt;generalize F.alloc (.cells #[()] 3)=G at *;have R:=AG.new G 4 #[false];have m:Below G G (G.alloc (.cells #[false] 4)):=(AN _ _).alloc AK _;have Ax:(G.alloc (.cells #[false] 4)).heap.size=G.heap.size+1:=AH;replace D:=D.below m D.lt;replace E:=E.below m E.lt;generalize G.alloc (.cells #[false] 4)=H at *;have n:=AG.new H 266 #[.slice a C.length c];have X:Below H H (H.alloc (.cells #[.slice a C.length c] 266)):=(AN _ _).alloc AK _;have Ay:(H.alloc (.cells #[.slice a C.length c] 266)).heap.size=H.heap.size+1:=AH;replace D:=D.below X D.lt;replace E:=E.below X E.lt;replace R:=R.below X R.lt;generalize H.alloc (.cells #[.slice a C.length c] 266)=N at *;have t:Below w w N:=((AW.trans (u.mono U)).trans (m.mono U)).trans (X.mono U);have Au:N.heap.size=w.heap.size+1+1+1+1:=U;have AM:H.heap.size=w.heap.size+1+1+1:=U;have AL:G.heap.size=w.heap.size+1+1:=U;have AJ:F.heap.size=w.heap.size+1:=U;rw[AM] at n;rw[AL] at R;rw[AJ] at E;obtain⟨AX,Aa⟩:=(AC.o.below t).AKO;refine wpIn_rangeFunc_ownH Z U (gf:=379) (lb:=#[.pointer (some ⟨w.heap.size+1+1+1,0,none⟩)]) rfl trivial (enters_of func379 AF rfl)
  (AKd Fence.wide 4 trivial Z U (w.heap.size+1+1+1) N _ C Ae Aa N U AK (n.cell 0) AX) belowK_t (belowK_b AK) DL J8
  (λpre A=>((((AG A w 9 #[.string ⟨s.toArray⟩]/\AG A (w.heap.size+1) 3 #[()])/\AG A (w.heap.size+1+1) 4 #[false])/\AG A (w.heap.size+1+1+1) 266 #[.slice a C.length c])/\(∀p∈pre,p.2.1≠s))/\Below w w A)
  (λk pre A=>(k=.ret/\∃S L,pre=S++[L]/\(∀p∈S,p.2.1≠s)/\L.2.1=s/\AG A (w.heap.size+1) 3 #[.int .i64 L.2.2]/\AG A (w.heap.size+1+1) 4 #[true])/\Below w w A)
  (OwnFrom.and (OwnFrom.and (OwnFrom.and (OwnFrom.and (OwnFrom.and (Own.from Y0 _) (Own.from Y0 _)) (Own.from Y0 _)) (Own.from Y0 _)) (ownFrom_pure _ _)) (ownFrom_below AK U))
  (λk=>OwnFrom.and (Own.from (λst V W row hs Y Q=>by obtain⟨Ad,S,L,P,j,l,AD,AI⟩:=hs;exact⟨Ad,S,L,P,j,l,Xc _ _ (λ(_:Unit)=>_) () V W row AD Y Q,Xc _ _ (λ(_:Unit)=>_) () V W row AI Y Q⟩) _) (ownFrom_below AK U))
  ⟨⟨⟨⟨⟨D,E⟩,R⟩,n⟩,AH⟩,t⟩
  (λx i A=>∃M,AG A M 326 #[AR x.2.1,.int .i64 x.2.2]/\i = { tmps:=#[.string ⟨s.toArray⟩,.slice a C.length c,.pointer w,undef,.pointer (some ⟨w.heap.size+1,0,none⟩),.pointer (some ⟨w.heap.size+1+1,0,none⟩),.int .i64 0,.bool false,undef,.pointer (some ⟨M,0,none⟩),.tuple #[(),false],.string ⟨s.toArray⟩,.tuple #[(),false],.int .i64 0,.bool false,.bool false,undef,.slice a C.length c,.func (.func 379) #[] #[.pointer (some ⟨w.heap.size+1+1+1,0,none⟩)],.int .i64 x.1,.agg #[AR x.2.1,.int .i64 x.2.2],undef,undef,undef,undef,undef,undef],defers:=[] })
  (λx i _ V W row hs Y Q=>by obtain⟨M,AO,AP⟩:=hs;exact⟨M,Xc _ _ (λ(_:Unit)=>_) () V W row AO Y (λr e=>(Q r e).2),AP⟩)
  ?assign ?body ?done ?stop
 case assign=>
  rintro Al pre x A Aq ⟨⟨⟨⟨⟨b,I⟩,J⟩,d⟩,K⟩,f⟩ hK;have Af:=d.lt;have AV:Below N A (A.alloc (.cells #[AR x.2.1,.int .i64 x.2.2] 326)):=(AN _ A).alloc U _;unfold XK;gi_wp2
  exact hK _ _ ((KeepsOthers.alloc _ _).from _) AV ⟨⟨⟨⟨⟨b.alloc _,I.alloc _⟩,J.alloc _⟩,d.alloc _⟩,K⟩,f.alloc U _⟩ ⟨A,AG.new A _ _,rfl⟩
 case body=>
  rintro Al pre x i A At ⟨r,Q⟩ ⟨⟨⟨⟨⟨b,I⟩,J⟩,d⟩,K⟩,f⟩ ⟨M,y,rfl⟩ Af;have Am:=b.cell 0;have Ao:=I.cell 0;have Ap:=J.cell 0;have Ar:=I.frozen 0;have As:=J.frozen 0;have AB:=y.cell 0;have An:=y.cell 1;unfold AR at AB;simp only[CH,A8,Bt] at Am Ao Ap AB An;by_cases hs:x.2.1=s
  .have P:(x.2.1==s)=true:=SI;gi_wp2
   exact⟨((KeepsOthers.setCell _ _ _).trans (KeepsOthers.setCell _ _ _)).from _,⟨rfl,pre,x,rfl,K,hs,(I.put 0 _).far (by show w.heap.size+1≠w.heap.size+1+1;omega) _,(J.far (by show w.heap.size+1+1≠w.heap.size+1;omega) _).put 0 _⟩,(f.setCell (by show w.heap.size<=w.heap.size+1;omega) _).setCell (by show w.heap.size<=w.heap.size+1+1;omega) _⟩
  .have P:(x.2.1==s)=false:=SI;gi_wp2
   have Ak:∀p∈pre++[x],p.2.1≠s:=by
    intro p Ah;rcases E1.1 Ah with h|h
    .exact K p h
    .rw[Jv.1 h];exact hs
   exact⟨KeepsFrom.refl _ _,AN _ _,⟨⟨⟨⟨⟨b,I⟩,J⟩,d⟩,Ak⟩,f⟩⟩
 case done=>
  rintro T A0 A AU rfl ⟨⟨_,K⟩,_⟩ hK;exfalso;exact AF7 g.o o.o K
 case stop=>
  rintro T k pre A AU ⟨Az,Ag,rfl⟩ ⟨⟨rfl,S,L,P,j,l,AQ,AS⟩,AT⟩ hK;gi_wp2
  refine⟨AH,.inl ⟨_,_,rfl,run_takeDeferred hK,?_⟩⟩;have AY:=cell_kept (AQ.cell 0) (grownBy_putObj' _ T (.deferred none)) vO;have AZ:=cell_kept (AS.cell 0) (grownBy_putObj' _ T (.deferred none)) vO;have Ai:=AF9 g.o o.o Ag P j l;refine⟨.tuple #[x,true],?_,rfl,AT.trans (belowK_b (w:=w) AK A T _ _ U hK rfl rfl)⟩;simp[results,f353,go_sem,AY,AZ,Ai]
def ADk(B:Env)(a:BH)(c:Nat)(s:AE)(x:Int)(w:AA)(C:GE.lookup s=some x):
 AI 353 #[.string ⟨s.toArray⟩,.slice a B.length c] w (Bz (.tuple #[x,true]) w):=by
 have A:=O C;refine(Nd (n:=5)).1 (callsIn_of_wp_marks func353 rfl trivial ?_ rfl);refine uf ?_;gi_wp2_with fail
 refine⟨trivial,?_⟩;refine(Nd.2 (bJ s _)).mono ?_;unfold L3;rw[A.o];rintro e w' ⟨rfl,rfl⟩;gi_wp2_with fail
 refine⟨.tuple #[x,true],?_,rfl,((AN _ _).alloc AK _ |>.alloc AH _).alloc AM _⟩;simp[results,f353,go_sem]
def ADm(B:Nat)(A:Env)(a:BH)(c:Nat)(G:A.length<=1000)(s:AE)(x:Int)(w:AA)(F:CQ B w A (.slice a A.length c))(hx:Iz s A=some x):
 AI 353 #[.string ⟨s.toArray⟩,.slice a A.length c] w (Bz (.tuple #[x,true]) w):=by
 by_cases D:GE.lookup s=none
 .exact Nd.1 (ADl B A a c G s x w F hx D)
 .obtain⟨C,E⟩:∃C,GE.lookup s=some C:=by
   cases h:GE.lookup s with
   | none=>exact absurd h D
   | some C=>exact⟨C,rfl⟩
  unfold Iz at hx;rw[E] at hx;obtain rfl:C=x:=gN;exact ADk A a c s C w E
end
def Pm(x:Int)(w:AA)(e:Ending)(A:AA):Prop:=e=.returned (.tuple #[x,()])/\Below w w A
def AD1(P:Nat->Prop)(D:Env)(B:BH)(C:Nat)(x:EP)(d:Int)(w:AA)(E:List AB)(h:Ai P w (.lit x d) E):
 AI 312 #[.agg E.toArray,.slice B D.length C] w (Pm d w):=by
 obtain⟨A,c,F,o,G,rfl,_⟩:=h.inv;have AC:=O (Bd.new h);change Hid (Bd P w (w.alloc (.cells [.int .i64 1,.int .i64 x.n,.int .i64 x.d,.int .i64 d,.string ⟨([]:AE).toArray⟩,.slice A 0 c].toArray 213)) (AY.lit x d) w [.int .i64 1,.int .i64 x.n,.int .i64 x.d,.int .i64 d,.string ⟨([]:AE).toArray⟩,.slice A 0 c]) at AC
 show AI 312 #[.agg #[.int .i64 1,x.n,x.d,d,.string ⟨([]:AE).toArray⟩,.slice A 0 c],.slice B D.length C] w _;exact X3
def AD2(P:Nat->Prop)(D:Env)(B:BH)(C:Nat)(n:Int)(w:AA)(E:List AB)(h:Ai P w (.EY n) E):
 AI 312 #[.agg E.toArray,.slice B D.length C] w (Pm 4 w):=by
 obtain⟨A,c,F,o,G,rfl,_⟩:=h.inv;have AC:=O (Bd.new h);change Hid (Bd P w (w.alloc (.cells [.int .i64 3,.int .i64 n,.int .i64 1,.int .i64 0,.string ⟨([]:AE).toArray⟩,.slice A 0 c].toArray 213)) (AY.EY n) w [.int .i64 3,.int .i64 n,.int .i64 1,.int .i64 0,.string ⟨([]:AE).toArray⟩,.slice A 0 c]) at AC
 show AI 312 #[.agg #[.int .i64 3,n,.int .i64 1,(),.string ⟨([]:AE).toArray⟩,.slice A 0 c],.slice B D.length C] w _;exact X3
def AD0(P:Nat->Prop)(B:Nat)(A:Env)(C:BH)(D:Nat)(s:AE)(x:Int)(w:AA)(G:List AB)(I:CQ B w A (.slice C A.length D))(J:A.length<=1000)(h:Ai P w (.name s) G)(K:Iz s A=some x):
 AI 312 #[.agg G.toArray,.slice C A.length D] w (Pm x w):=by
 have H:=O (λF (hb:Below w w F)=>ADm B A C D J s x F (I.below hb) K);obtain⟨E,c,T,o,V,rfl,_⟩:=h.inv;have AC:=O (Bd.new h);change Hid (Bd P w (w.alloc (.cells [.int .i64 2,.int .i64 0,.int .i64 0,.int .i64 0,.string ⟨s.toArray⟩,.slice E 0 c].toArray 213)) (AY.name s) w [.int .i64 2,.int .i64 0,.int .i64 0,.int .i64 0,.string ⟨s.toArray⟩,.slice E 0 c]) at AC
 show AI 312 #[.agg #[.int .i64 2,(),(),(),.string ⟨s.toArray⟩,.slice E 0 c],.slice C A.length D] w _;obtain⟨L,M,N,Q,R,S,U⟩:=AC.o.blk.y6;go_in;go_wp2_with fail;go_call H.o _ AC.o.AJ as e F ⟨rfl,hb⟩;replace AC:=O Ij;exact UW
def ADz(P:Nat->Prop)(B:Nat)(A:Env)(C:BH)(D:Nat)(Ag:A.length<=1000)(e:AY)
 (S:∀k∈e.kids,∀(x:Int) (w:AA) (E:List AB),CQ B w A (.slice C A.length D)->Ai P w k E->k.DG=true->C5 A k=some x->AI 312 #[.agg E.toArray,.slice C A.length D] w (Pm x w))
 (x:Int)(w:AA)(E:List AB)(he:CQ B w A (.slice C A.length D))(h:Ai P w e E)(N:e.DG=true)(g:C5 A e=some x)(I:4<=e.op):
 AI 312 #[.agg E.toArray,.slice C A.length D] w (Pm x w):=by
 have s:=O S;have q:=O (e.WX N);have J:=e.Xm N;obtain⟨ds,L,T,V,M⟩:=mu g I;obtain⟨a,c,Ae,Ap,As,f,_⟩:=h.inv;rw[e.Wz N I] at f;have ZR:=O (λw Ab AF=>ACy e.op ds x w Ab AF (by rw[L];exact J) I V M);have m:=O T;have Ak:(x==0)=false:=Aw.2 M;have Aj:=e.Qo;have Ah:1<=e.kids.length:=by
  unfold LE at J;omega
 subst f;have AC:=O (Bd.new h);change Hid (Bd P w (w.alloc (.cells [.int .i64 e.op,.int .i64 0,.int .i64 0,.int .i64 0,.string ⟨([]:AE).toArray⟩,.slice a e.kids.length c].toArray 213)) e w [.int .i64 e.op,.int .i64 0,.int .i64 0,.int .i64 0,.string ⟨([]:AE).toArray⟩,.slice a e.kids.length c]) at AC
 have Aq:=O R4;clear h S J he T V M g;show AI 312 #[.agg #[e.op,(),(),(),.string ⟨([]:AE).toArray⟩,.slice a e.kids.length c],.slice C A.length D] w _;have At:(e.op==1)=false:=Aw.2 U;have Au:(e.op==2)=false:=Aw.2 U;have Av:(e.op==3)=false:=Aw.2 U;have z:Hid (∀i,i<e.kids.length->∃k,e.kids[i]? = some k):=λi X=>⟨_,BL X⟩;generalize e.op=AS at *;generalize AD:e.kids.length=n at *;have An:=O L;clear AD L;obtain⟨b0,t,u,v,y,b5,hbl⟩:=AC.o.blk.y6;go_in;go_wp2_with fail;clear b0 t u v y b5 hbl;go_loopw [8,38] (λAc Q wr=>∃i:Nat,Q=.int .i64 (i:Int)/\i<=n/\wr.ownsRow w 3 1 Ac i ((ds.take i).map (Value.int .i64))/\Bd P w wr e w [.int .i64 AS,.int .i64 0,.int .i64 0,.int .i64 0,.string ⟨([]:AE).toArray⟩,.slice a n c]/\CQ B wr A (.slice C A.length D)) (λ_ Q _=>n-(intOf Q).toNat)
 case atStart=>exact⟨0,rfl,Az _,Ia _ _ _ _,AC.o,Aq.o⟩
 case round=>
  clear AC Aq;obtain⟨i,rfl,X,hown,F,W⟩:=hrel;have AC:=O F;have Aq:=O W;have BI:=O hown;obtain⟨b0,hbl⟩:=F.blk.y1;have b5:=F.blk.g5;clear F W;by_cases Y:i<n
  .obtain⟨k,G⟩:=z.o i Y;obtain⟨d,K⟩:=BQ ds i (by rw[An.out];exact Y);obtain⟨Ad,o,AG,AJ,AL,AM,AO,AQ,AR,AP,rfl,-,Al,Af,Z,AT,AU,AV,AW,AX,Aa⟩:=AC.o.tree.MW rfl i k G;have dl:=Ar i n;have H:=O Z;have R:=O (Bu G);have r:=O ((m.o i k G).trans K);have OF:=O (show ds.take (i+1)=ds.take i++[d] by rw[Mk,K];rfl);obtain⟨va,Gz,rfl⟩:=CG hown;clear Z G K hown;go_wp2_with fail;have hal:Below wr wr (wr.alloc (.cells #[AG,AJ,AL,AM,.string ⟨AO.toArray⟩,.slice AQ AR AP] 213)):=(AN _ _).alloc AK _;replace BI:=O (IQ BI.o hal Y4);replace AC:=O Hn;replace Aq:=O (Aq.o.below hal);replace H:=O (H.o.stay hal);have Ao:=AC.o.AJ.size;clear AT AU AV AW AX Aa b0 b5 hbl hal;refine(s.o k R.o d _ _ Aq.o H.o (q.o k R.o) r.o).mono ?_;rintro en w1 ⟨rfl,hb1⟩;replace BI:=O (IQ BI.o hb1 Y4);have ZQ:=O Bg;have wY:=O Ik;have Am:=ZQ.o.AJ.size;clear hb1 AC Aq;exact ta
  .exact tb
def AD3(P:Nat->Prop)(B:Nat)(A:Env)(D:BH)(E:Nat)(J:A.length<=1000):∀(e:AY) (x:Int) (w:AA) (C:List AB),CQ B w A (.slice D A.length E)->Ai P w e C->e.DG=true->C5 A e=some x->
 AI 312 #[.agg C.toArray,.slice D A.length E] w (Pm x w):=by
 refine AY.MV ?_;intro e K x w C H G I F;rcases e.XZ I with ⟨Q,L,rfl⟩|⟨O,rfl⟩|⟨N,rfl⟩|M
 .simp only[C5,CW] at F;subst F;exact AD1 P A D E Q L w C G
 .exact AD0 P B A D E O x w C H J G F
 .simp only[C5,CW] at F;subst F;exact AD2 P A D E N w C G
 .exact ADz P B A D E J e K x w C H G I F M
def fe(D:AA->Prop)(a:BH)(n c:Nat):Prop:=∀A,D A->∀C:Nat,C<n->∃(B:Nat) (E F:AB),a=some ⟨B,0,none⟩/\n<=c/\B<A.heap.size/\A.cell? ⟨B,C*2,none⟩=some E/\A.cell? ⟨B,C*2+1,none⟩=some F/\AI 311 #[.agg #[E,F]] A (λH G=>H=.returned (.bool false)/\D G)
def AGx(I:AA->Prop)(a:BH)(n c:Nat)(H:fe  I a n c)(B:n<=1000)(w:AA)(hI:I w):
 AI 310 #[.slice a n c,.func (.func 311) #[] #[]] w (λe A=>e=.returned (.int .i64 (-1))/\I A):=by
 exact fI
def AKB(A:AA->Prop)(a:BH)(n c:Nat)(H:fe  A a n c)(B:n<=1000)(w:AA)(hI:A w):
 AI 232 #[.slice a n c,.func (.func 311) #[] #[]] w (λe C=>e=.returned (.bool false)/\A C):=by
 have Ag:=O (AGx  A a n c H B w hI);exact Ua
def fc(p:AB)(D:AA->Prop)(a:BH)(n c:Nat):Prop:=∀A,D A->∀C:Nat,C<n->∃(B:Nat) (E F:AB),a=some ⟨B,0,none⟩/\n<=c/\B<A.heap.size/\A.cell? ⟨B,C*2,none⟩=some E/\A.cell? ⟨B,C*2+1,none⟩=some F/\AI 233 #[.agg #[E,F],p] A (λH G=>H=.returned (.bool false)/\D G)
def AGw(p:AB)(I:AA->Prop)(a:BH)(n c:Nat)(H:fc p I a n c)(B:n<=1000)(w:AA)(hI:I w):
 AI 310 #[.slice a n c,.func (.func 233) #[] #[p]] w (λe A=>e=.returned (.int .i64 (-1))/\I A):=by
 exact fI
def AKA(p:AB)(A:AA->Prop)(a:BH)(n c:Nat)(H:fc p A a n c)(B:n<=1000)(w:AA)(hI:A w):
 AI 232 #[.slice a n c,.func (.func 233) #[] #[p]] w (λe C=>e=.returned (.bool false)/\A C):=by
 have Ag:=O (AGw p A a n c H B w hI);exact Ua
def fb(p:AB)(D:AA->Prop)(a:BH)(n c:Nat):Prop:=∀A,D A->∀C:Nat,C<n->∃(B:Nat) (E F:AB),a=some ⟨B,0,none⟩/\n<=c/\B<A.heap.size/\A.cell? ⟨B,C*2,none⟩=some E/\A.cell? ⟨B,C*2+1,none⟩=some F/\AI 165 #[.agg #[E,F],p] A (λH G=>H=.returned (.bool false)/\D G)
def AGv(p:AB)(I:AA->Prop)(a:BH)(n c:Nat)(H:fb p I a n c)(B:n<=1000)(w:AA)(hI:I w):
 AI 235 #[.slice a n c,.func (.func 165) #[] #[p]] w (λe A=>e=.returned (.int .i64 (-1))/\I A):=by
 exact fI
def AJ'(p:AB)(A:AA->Prop)(a:BH)(n c:Nat)(H:fb p A a n c)(B:n<=1000)(w:AA)(hI:A w):
 AI 164 #[.slice a n c,.func (.func 165) #[] #[p]] w (λe C=>e=.returned (.bool false)/\A C):=by
 have Ag:=O (AGv p A a n c H B w hI);exact Ua
def fZ(p:AB)(D:AA->Prop)(a:BH)(n c:Nat):Prop:=∀A,D A->∀C:Nat,C<n->∃(B:Nat) (E F J K L M N O P Q G H I:AB),a=some ⟨B,0,none⟩/\n<=c/\B<A.heap.size/\A.cell? ⟨B,C*13,none⟩=some E/\A.cell? ⟨B,C*13+1,none⟩=some F/\A.cell? ⟨B,C*13+2,none⟩=some J/\A.cell? ⟨B,C*13+3,none⟩=some K/\A.cell? ⟨B,C*13+4,none⟩=some L/\A.cell? ⟨B,C*13+5,none⟩=some M/\A.cell? ⟨B,C*13+6,none⟩=some N/\A.cell? ⟨B,C*13+7,none⟩=some O/\A.cell? ⟨B,C*13+8,none⟩=some P/\A.cell? ⟨B,C*13+9,none⟩=some Q/\A.cell? ⟨B,C*13+10,none⟩=some G/\A.cell? ⟨B,C*13+11,none⟩=some H/\A.cell? ⟨B,C*13+12,none⟩=some I/\AI 167 #[.agg #[E,F,J,K,L,M,N,O,P,Q,G,H,I],p] A (λS R=>S=.returned (.bool false)/\D R)
def AGs(p:AB)(A:AA->Prop)(a:BH)(n c:Nat)(D:fZ p A a n c)(P:n<=1000)(w:AA)(G:A w):
 AI 236 #[.slice a n c,.func (.func 167) #[] #[p]] w (λe J=>e=.returned (.int .i64 (-1))/\A J):=by
 have F:=O D;have Ag:=O G;go_in;go_wp2_with fail;go_loopw [8] (λC wr=>∃i:Nat,C=.int .i64 (i:Int)/\i<=n/\A wr) (λC _=>n-(intOf C).toNat)
 case atStart=>exact⟨0,rfl,Az _,Ag.o⟩
 case round=>
  obtain⟨i,rfl,M,B⟩:=hrel;have Ag:=O B;by_cases I:i<n
  .obtain⟨K,k,l,r,s,t,u,v,x,y,z,m,o,q,rfl,N,L,Q,R,W,X,Y,Z,d,f,g,j,S,T,V,H⟩:=F.o wr Ag.o i I;have dl:=Ar i n;have E:=O H;go_wp2_with fail;go_call E.o as en w1 ⟨rfl,B⟩;replace Ag:=O B;exact eU
  .exact eu
def AJ9(p:AB)(A:AA->Prop)(a:BH)(n c:Nat)(H:fZ p A a n c)(B:n<=1000)(w:AA)(hI:A w):
 AI 166 #[.slice a n c,.func (.func 167) #[] #[p]] w (λe C=>e=.returned (.bool false)/\A C):=by
 have Ag:=O (AGs p A a n c H B w hI);exact Ua
def fY(p:AB)(D:AA->Prop)(a:BH)(n c:Nat):Prop:=∀A,D A->∀C:Nat,C<n->∃(B:Nat) (E F G H I J K:AB),a=some ⟨B,0,none⟩/\n<=c/\B<A.heap.size/\A.cell? ⟨B,C*7,none⟩=some E/\A.cell? ⟨B,C*7+1,none⟩=some F/\A.cell? ⟨B,C*7+2,none⟩=some G/\A.cell? ⟨B,C*7+3,none⟩=some H/\A.cell? ⟨B,C*7+4,none⟩=some I/\A.cell? ⟨B,C*7+5,none⟩=some J/\A.cell? ⟨B,C*7+6,none⟩=some K/\AI 170 #[.agg #[E,F,G,H,I,J,K],p] A (λM L=>M=.returned (.bool false)/\D L)
def AGr(p:AB)(A:AA->Prop)(a:BH)(n c:Nat)(D:fY p A a n c)(P:n<=1000)(w:AA)(G:A w):
 AI 237 #[.slice a n c,.func (.func 170) #[] #[p]] w (λe J=>e=.returned (.int .i64 (-1))/\A J):=by
 have F:=O D;have Ag:=O G;go_in;go_wp2_with fail;go_loopw [8] (λC wr=>∃i:Nat,C=.int .i64 (i:Int)/\i<=n/\A wr) (λC _=>n-(intOf C).toNat)
 case atStart=>exact⟨0,rfl,Az _,Ag.o⟩
 case round=>
  obtain⟨i,rfl,M,B⟩:=hrel;have Ag:=O B;by_cases I:i<n
  .obtain⟨K,Y,Z,d,f,g,j,k,rfl,N,L,Q,R,S,T,V,W,X,H⟩:=F.o wr Ag.o i I;have dl:=Ar i n;have E:=O H;go_wp2_with fail;go_call E.o as en w1 ⟨rfl,B⟩;replace Ag:=O B;exact eU
  .exact eu
def AJ8(p:AB)(A:AA->Prop)(a:BH)(n c:Nat)(H:fY p A a n c)(B:n<=1000)(w:AA)(hI:A w):
 AI 169 #[.slice a n c,.func (.func 170) #[] #[p]] w (λe C=>e=.returned (.bool false)/\A C):=by
 have Ag:=O (AGr p A a n c H B w hI);exact Ua
