import Derived.Test.YtcpcgpbohiineaaGreatDoorY19
import Derived.Test.YtcpcgpbohiineaaGreatDoorY20
import Derived.Test.YtcpcgpbohiineaaGreatDoorY22
namespace Go.Proofs.YtcpcgpbohiineaaGreatDoor
open Go.RowKit Go.Proofs.Tryz
set_option linter.all false
set_option maxRecDepth 100000
set_option maxHeartbeats 4000000
section
variable{v:AB}
attribute [local irreducible] Cu
structure Rp(w:AA)(n1 n2:Ay)(fs:List Mz)(cs:List M9)(v1 v2 v3 v4:AB):Prop where
 laws:Fo w v1 n1
 WQ:Fo w v2 n2
 facts:L4 13 ZF w fs v3
 XV:L4 6 iL w cs v4
 l1:n1.length<=1000000000000000000
 l2:n2.length<=1000000000000000000
 l3:fs.length<=1000000000000000000
 FK:cs.length<=1000000000000000000
def Rp.below{w I:AA}{C D:Ay}{fs:List Mz}{cs:List M9}{E F G H:AB}(A:Rp w C D fs cs E F G H)(B:Below w w I):Rp I C D fs cs E F G H:=
 ⟨A.laws.below B,A.WQ.below B,A.facts.below B,A.XV.below B,A.l1,A.l2,A.l3,A.FK⟩
def ANk(n:Ay)(w:AA)(e:Ending)(D:AA):Prop:=
 ∃A B C E G c F H I,e=.returned (.tuple #[.agg #[A,B,C],.slice E G c,.slice F H I])/\CP w D (Bp n) A B C/\Below w w D
def Fo.shape{w:AA}{l:Ay}(h:Fo w v l):∃a c,v=.slice a l.length c:=wK
def L4.shape{α:Type}{m:Nat}{B:α->List AB->Prop}{w:AA}{A:List α}(h:L4 m B w A v):∃a c,v=.slice a A.length c:=wK
def jx{B g:Nat}{w W:AA}(C:Below B w W)(A:B<=g)(x y z:AB):Below B w (((W.setCell ⟨g,0,none⟩ x).setCell ⟨g,1,none⟩ y).setCell ⟨g,2,none⟩ z):=
 ((C.setCell (p:=⟨g,0,none⟩) A x).setCell (p:=⟨g,1,none⟩) A y).setCell (p:=⟨g,2,none⟩) A z
def AKE(w:AA)(n1 n2:Ay)(fs:List Mz)(cs:List M9)(y AC AE AJ:AB)(d:Int)(h:Rp w n1 n2 fs cs y AC AE AJ):
 AI 4 #[.agg #[y,AC,AE,AJ,d]] w (ANk n1 w):=by
 have AL:=O h;obtain⟨a1,c1,rfl⟩:=h.laws.shape;obtain⟨a2,c2,rfl⟩:=h.WQ.shape;obtain⟨a3,c3,rfl⟩:=h.facts.shape;obtain⟨a4,c4,rfl⟩:=h.XV.shape;go_in;go_wp2_with fail;have B:=O (AL.o.below ur);have C:=O ur;have D:AG ((w.alloc (.cells #[Value.slice a1 n1.length c1,Value.slice a2 n2.length c2,Value.slice a3 fs.length c3,Value.slice a4 cs.length c4,Value.int IntKind.i64 d] 26)).alloc (.cells #[Value.slice none 0 0,Value.slice none 0 0,Value.slice none 0 0] 33)) w 26 #[Value.slice a1 n1.length c1,Value.slice a2 n2.length c2,Value.slice a3 fs.length c3,Value.slice a4 cs.length c4,Value.int IntKind.i64 d]:=(AG.new _ _ _).alloc _;have A:AG ((w.alloc (.cells #[Value.slice a1 n1.length c1,Value.slice a2 n2.length c2,Value.slice a3 fs.length c3,Value.slice a4 cs.length c4,Value.int IntKind.i64 d] 26)).alloc (.cells #[Value.slice none 0 0,Value.slice none 0 0,Value.slice none 0 0] 33)) (w.heap.size+1) 33 #[Value.slice none 0 0,Value.slice none 0 0,Value.slice none 0 0]:=AG.newAt _ _ _ _ AH;generalize (w.alloc (.cells #[Value.slice a1 n1.length c1,Value.slice a2 n2.length c2,Value.slice a3 fs.length c3,Value.slice a4 cs.length c4,Value.int IntKind.i64 d] 26)).alloc (.cells #[Value.slice none 0 0,Value.slice none 0 0,Value.slice none 0 0] 33)=AM at *;refine DB [2,5,6] [0,1,3,4,2,5,6,7] (w.heap.size+2) AF AF rfl AD AF BK ?_;refine Ea ?_;replace D:=D.drew;replace A:=A.drew;replace C:=O C.o.drew;replace B:=O (B.o.below Y_);generalize AM.drew=g at *;obtain⟨j,l,m,n,o,r⟩:=D.DY;refine Cq ?_;intro K hK;go_at_call 12;go_call AF' _ _ _ B.o.WQ B.o.l2 as e X1 ⟨u1,m1,rfl,Y,Al,hb1⟩;have T:w.heap.size+2<=g.heap.size:=A.lt;refine hK _ _ (w.heap.size+2) AK (hb1.mono T) ?_;have P:=O (B.o.below hb1);have W:=hb1.size;refine Cq ?_;intro K hK;go_at_call 13;go_call AHP _ _ _ P.o.facts P.o.l3 as e X2 ⟨u2,m2,rfl,Q,hm2,hb2⟩;refine hK _ _ (w.heap.size+2) AK (hb2.mono (Ap T W)) ?_;replace Y:=Y.below hb2;repeat refine DD ?_
 obtain⟨Ab,u,AR⟩:=Y;obtain⟨f,J,X⟩:=Q;obtain⟨AY,Aa,rfl⟩:=CG u;obtain⟨Z,b,rfl⟩:=CG J;refine J5 ?_;intro K hK;refine OY _ _ 34 AZ g 105 (.agg #[(),(),(),false,(),(),(),(),(),(),(),(),(),()]) 14 112 underlying34 O4 rfl U U (.slice AY m1 Aa) m1 Ab rfl u (.slice Z m2 b) m2 f rfl (Hv J) J.1 X U (Ap W hb2.size) ?_;intro u3 V L F Aj _;refine hK _ _ (w.heap.size+2) AK (F.mono T) ?_;go_simp;obtain⟨a,c,rfl⟩:=CG L;have An:Rg w V 105 14 (.slice a (m1+m2) c) (m1+m2):=⟨_,F_ L U,λx AT=>(E1.1 AT).elim (AR x) (X x)⟩;have E:=(hb1.trans (hb2.mono W)).trans F;replace D:=D.below E U;replace A:=A.below E U;replace C:=O (C.o.trans (E.mono U));replace B:=O (B.o.below E);have AX:=A.lt;obtain⟨j,l,m,n,o,r⟩:=D.DY;refine HM ?_;go_upto_region 2 with fail;refine DB [2,6,9,10,11] [0,1,3,4,5,7,8,2,6,9,10,11,12,13] (w.heap.size+1) AF AF rfl AD AF BK ?_;refine Ea ?_;replace D:=D.drew;replace A:=A.drew;replace C:=O C.o.drew;replace B:=O (B.o.below Y_);have T:w.heap.size+2<=V.drew.heap.size:=A.lt;generalize V.drew=Ad at *;obtain⟨j,l,m,n,o,r⟩:=D.DY;refine Cq ?_;intro K hK;go_at_call 14;go_call mQ _ _ _ B.o.laws B.o.l1 as e AO ⟨l1,l2,l3,rfl,I,hb1⟩;refine hK _ _ (w.heap.size+1) AK (hb1.mono U) ?_;have P:=O (B.o.below hb1);have AV:=hb1.size;refine Cq ?_;intro K hK;go_at_call 15;go_call AHU _ _ _ P.o.XV P.o.FK as e Ae ⟨u2,m2,rfl,Q,hm2,hb2⟩;refine hK _ _ (w.heap.size+1) AK (hb2.mono U) ?_;have AW:=hb2.size;refine Cq ?_;intro K hK;go_at_call 16;go_call AHc _ _ as e Af ⟨u3,m3,rfl,hu3,Am,F⟩;refine hK _ _ (w.heap.size+1) AK (F.mono U) ?_;have AX:=F.size;replace Q:=Q.below F;repeat refine DD ?_
 obtain⟨f,J,X⟩:=Q;obtain⟨Ac,L,AS⟩:=hu3;obtain⟨Z,b,rfl⟩:=CG J;obtain⟨a,c,rfl⟩:=CG L;refine J5 ?_;intro K hK;refine OY _ _ 35 AZ AO 131 (.agg #[(),(),(),(),(),()]) 6 48 underlying35 mq rfl U U (.slice Z m2 b) m2 f rfl J (.slice a m3 c) m3 Ac rfl (Hv L) L.1 AS U U ?_;intro u4 i AU t Ak _;obtain⟨Ao,Aq,rfl⟩:=CG AU;refine hK _ _ (w.heap.size+1) AK (t.mono U) ?_;go_simp;have E:=((hb2.trans (F.mono AW)).trans t);have s:=hb1.trans (E.mono AV);replace I:CP w i (Bp n1) l1 l2 l3:=(I.below E).lower U;replace A:=A.below s U;replace C:=O (C.o.trans (s.mono U));refine J5 ?_;intro K hK;obtain⟨G,H,rfl,_⟩:=I.c1.slice;obtain⟨M,N,rfl,_⟩:=I.c2.slice;obtain⟨R,S,rfl,_⟩:=I.c3.slice;have Ah:=A.cell;have Ai:=A.frozen;go_simp;have AQ:=((I.set A 0 (.slice G (Bp n1).Ao.length H)).set (A.put 0 (.slice G (Bp n1).Ao.length H)) 1 (.slice M (Bp n1).Bc.length N)).set ((A.put 0 (.slice G (Bp n1).Ao.length H)).put 1 (.slice M (Bp n1).Bc.length N)) 2 (.slice R (Bp n1).rat.length S);have AP:=((A.put 0 (.slice G (Bp n1).Ao.length H)).put 1 (.slice M (Bp n1).Bc.length N)).put 2 (.slice R (Bp n1).rat.length S);refine hK _ _ (w.heap.size+1) AK (jx DL AK (.slice G (Bp n1).Ao.length H) (.slice M (Bp n1).Bc.length N) (.slice R (Bp n1).rat.length S)) ?_;replace C:=O (jx C.o Up (.slice G (Bp n1).Ao.length H) (.slice M (Bp n1).Bc.length N) (.slice R (Bp n1).rat.length S));generalize ((i.setCell ⟨w.heap.size+1,0,none⟩ (.slice G (Bp n1).Ao.length H)).setCell ⟨w.heap.size+1,1,none⟩ (.slice M (Bp n1).Bc.length N)).setCell ⟨w.heap.size+1,2,none⟩ (.slice R (Bp n1).rat.length S)=Ag at *;refine HM ?_;go_wp2_with fail;exact BE (v:=.tuple #[.agg _,_,_]) (MH results4 _ _ (w.heap.size+1) 33 _ (0,0) _ _ _ rfl rfl rfl AP underlying33 rfl jo) rfl ⟨_,_,_,_,_,_,_,_,_,rfl,AQ,C.o⟩
end
section
open Go.ChangeShapes Go.WideShapes Go.ChangeAt Go.RowKit Go.Deep
variable{t e:TypeId}{fuel:Nat}
def ou{α:Type}(Q:Nat->α->Prop):∀n,(∀i,i<n->∃x,Q i x)->∃B:List α,B.length=n/\∀i x,B[i]? = some x->Q i x
 | 0,_=>⟨[],rfl,λi x h=>by simp at h⟩
 | n+1,h=>by
  obtain⟨B,D,G⟩:=ou Q n (λi C=>h i U);obtain⟨x,I⟩:=h n U;refine⟨B++[x],by simp[D],λi J A=>?_⟩;by_cases C:i<B.length
  .rw[Te C] at A;exact G i J A
  .rw[Qt U] at A;have E:=(Cd.1 A).1;simp at E;have F:i=n:=U;subst F;rw[D,Nat.sub_self] at A;simp at A;subst A;exact I
def Pf(B:Nat)(w:AA)(J:AB)(C:List AE):Prop:=
 ∃G c,J=.slice G C.length c/\C.length<=c/\(0<C.length->∃D o,G=some ⟨D,o,none⟩/\D<B/\∀I A,C[I]? = some A->∃E F,w.cell? ⟨D,o+I,none⟩=some (.slice E A.length F)/\Af B w (.slice E A.length F) A/\(E=none->F=0)/\A.length+16<=140737488355328)
def Pf.below{B:Nat}{w J:AA}{I:AB}{G:List AE}(A:Pf B w I G)(D:Below B w J):Pf B J I G:=by
 obtain⟨K,c,rfl,Q,A⟩:=A;refine⟨K,c,rfl,Q,λS=>?_⟩;obtain⟨C,o,rfl,E,T⟩:=A S;refine⟨C,o,rfl,E,λF U R=>?_⟩;obtain⟨L,M,N,O,P⟩:=T F U R;exact⟨L,M,(D.cell (p:=⟨C,o+F,none⟩) E).trans N,O.below D,P⟩
section
variable {H:Type} {enc:TypeId × AB->H} {w:AA} {base:Nat} {spare:Nat->Bool} {held:Bool}
def AKK:prog.bytesOf 5=1:=AF
def AEm:prog.cellsOf 27=1:=AF
def PU{ts:List TypeId}{A:List (DataW H)}(C:(DataW.weightsEach prog ts A).all (·<=reachBytes)=true){j:Nat}{d:DataW H}(E:ts[j]? = some t)(D:A[j]? = some d):(d.weights prog t).all (·<=reachBytes)=true:=by
 rw[DS];intro B F;exact DS.1 C B (DataW.weights_mem_each E D B F)
def oy{v:AB}{x:DataW H × List MemPlace}(h:DataW.trod enc prog w base spare held fuel 27 [v]=some x):
 ∃(a:BH) (c:Nat) (l:AE),v=.slice a l.length c/\(a=none->c=0)/\Af w w (.slice a l.length c) l/\((x.1.weights prog 27).all (·<=reachBytes)=true->l.length<=140737488351232):=by
 rcases open_ints underlying27 underlying5 AEk h with ⟨C,N⟩|⟨a,I,J,B,C,_,Y,b,O,N,P,S⟩
 .simp at C;subst C;exact⟨none,0,[],rfl,λ_=>rfl,⟨none,0,rfl,Bh _,λh=>by simp at h⟩,λ_=>by simp⟩
 .simp at C;subst C;have Z:I<=B.length:=by rw[O];split<;>omega
  obtain⟨l,M⟩:∃l:AE,l=(B.take I).map λV=>UInt8.ofNat V.toNat:=⟨_,rfl⟩;have Q:l.length=I:=by rw[M];simp;omega
  refine⟨some a,J,l,by rw[Q],(λh=>by simp at h),⟨some a,J,rfl,U,λd=>?_⟩,λD=>?_⟩
  .obtain⟨G,T,rfl,L⟩:=ints_at P U;have R:G<w.heap.size:=by
    have:=L 0 U;simp only[World.cell?] at this;rcases Fg G w with h|h
    .exact h
    .rw[Kl Fq] at this;simp at this
   refine⟨G,T,rfl,R,λA f F=>?_⟩;have X:A<l.length:=(Cd.1 F).1;have E:A<B.length:=U;rw[L A E];have D:B.getD A 0=B[A]:=by simp[List.getD,E]
   have W:=yi (S B[A] (Gq E));rw[M,JA,Tk U,BL E] at F;simp only[Td,CW] at F;rw[D,<-F];congr 2
   simp;omega
  .rw[N] at D;simp only[DataW.weights,underlying27,Ju,At] at D;have K:=Ic D.1;rw[AKK] at K;simp only[lits,Lj,HE,EM,reachBytes] at K;omega
def AEh{r:Reach}{A:Nat}{v:AB}{d:DataW H}{p:List MemPlace}(B:Value.okWide prog w r A 27 v)(h:DataW.Trod enc prog w base spare held 27 v d p):
 ∃(a:BH) (c:Nat) (l:AE),v=.slice a l.length c/\(a=none->c=0)/\Af w w (.slice a l.length c) l/\((d.weights prog 27).all (·<=reachBytes)=true->l.length<=140737488351232):=by
 obtain⟨C,E,D,rfl⟩:=okWide_slice underlying27 B;obtain⟨fuel,hf⟩:=h;exact oy (x:=(d,p)) vr
def pV{P:Nat->Bool}: ∀(l:List (DataW H)),(DataW.weightsAll prog e l).all P=true->∀d∈l,(d.weights prog e).all P=true
 | [],_=>λ_ A=>by cases A
 | d::l,A=>by
  rw[DataW.weightsAll,Ml,At] at A;intro C B;rcases Aj.1 B with rfl|B
  .exact A.1
  .exact pV l A.2 C B
def bc{α:Type}(F:α->List AB)(I:α->DataW H->Prop)(C:Nat)(Q:0<C)(N:prog.underlying t=some (.slice e))(Z:prog.cellsOf e=C)
 (g:∀{n:Nat} {cs:List AB} {y:DataW H × List MemPlace},DataW.trod enc prog w base spare held n e cs=some y->∃x:α,cs=F x/\I x y.1)
 (AA:∀x,(F x).length=C){v:AB}{y:DataW H × List MemPlace}(h:DataW.trod enc prog w base spare held fuel t [v]=some y):
 ∃(a:BH) (c:Nat) (A:List α) (E:Nat->DataW H),v=.slice a A.length c/\A.length<=c/\c<=maxLen/\(a=none->c=0)/\(∀i x,A[i]? = some x->I x (E i))/\(∀i,i<A.length->∀P,(y.1.weights prog t).all P=true->((E i).weights prog e).all P=true)/\((y.1.weights prog t).all (·<=reachBytes)=true->A.length*prog.bytesOf e<=reachBytes)/\(0<A.length->∃b o,a=some ⟨b,o,none⟩/\b<w.heap.size/\∀i x,A[i]? = some x->∀j,j<C->w.cell? ⟨b,o+i*C+j,none⟩=(F x)[j]?):=by
 rcases open_slice N h with ⟨G,B⟩|⟨a,T,Y,V,n,E,AH,G,AJ,AL,r,q,B,l⟩
 .simp at G;subst G;exact⟨none,0,[],λ_=>.nil,rfl,Bh _,Az _,λ_=>rfl,(λi x B=>by cases B),(λi h=>by simp at h),(λ_=>by simp[reachBytes]),λh=>by simp at h⟩
 .simp at G;subst G;have AM:T<=V:=by rw[q];split<;>omega
  have k:∀i,i<V->∃x:α,I x (E i)/\∀j,j<C->w.cell? ((a.add (i*C)).add j)=(F x)[j]?:=by
   intro i L;obtain⟨AI,S,AC⟩:=l i L;rw[Z] at S;obtain⟨_,AK,d⟩:=World.cells?_some S;obtain⟨x,rfl,s⟩:=g AC;exact⟨x,s,λj M=>d j M⟩
  obtain⟨A,R,K⟩:=ou (λi (x:α)=>I x (E i)/\∀j,j<C->w.cell? ((a.add (i*C)).add j)=(F x)[j]?) T (λi L=>k i U);refine⟨some a,Y,A,E,by rw[R],U,r,N9,(λi x B=>(K i x B).1),?_,λD=>?_,λu=>?_⟩
  .intro i L P D;rw[B] at D;simp only[DataW.weights,N,Ju,Ml,At] at D;exact pV _ D.2.1 _ (Gr.2 ⟨i,RB.2 U,rfl⟩)
  .rw[B] at D;simp only[DataW.weights,N,Ju,At] at D;have O:=Ic D.1;simp only[Lj,List.length_range] at O;rw[R];exact Ap (Qv _ (Nat.le_add_right _ _)) O
  .obtain⟨b,AF,AG⟩:=a;obtain⟨X,AE⟩:=Ed u;have J:=(K 0 X AE).2 0 Q;have f:∃W,(F X)[0]? = some W:=⟨_,BL (by rw[AA];exact Q)⟩;obtain⟨W,AD⟩:=f;rw[AD] at J;have z:AG=none:=by simpa[Addr.add] using World.cell?_spot J
   subst z;have m:b<w.heap.size:=by
    simp only[World.cell?,Addr.add] at J;rcases Fg b w with h|h
    .exact h
    .simp[Kl h] at J
   refine⟨b,AF,rfl,m,λi x B j M=>?_⟩;have:=(K i x B).2 j M;rw[Go.Deep.add_add,Go.WideShapes.add_plain] at this;rw[Nj];exact D2
def AG1{n:Nat}{cs:List AB}{y:DataW H × List MemPlace}(A:DataW.trod enc prog w base spare held n 3 cs=some y):∃x:Int,cs=[.int .i64 x]/\True:=by
 obtain⟨x,B,_⟩:=DataW.trod_int underlying3 A;exact⟨x,B,trivial⟩
def AHQ{n:Nat}{cs:List AB}{y:DataW H × List MemPlace}(h:DataW.trod enc prog w base spare held n 117 cs=some y):
 ∃x:Mz,cs=[.int .i64 x.a0,.int .i64 x.a1,.int .i64 x.a2,.bool x.a3,.int .i64 x.a4,.int .i64 x.a5,.int .i64 x.a6,.int .i64 x.a7,.int .i64 x.a8,.int .i64 x.a9,.int .i64 x.Bf,.int .i64 x.Be,.int .i64 x.a12]/\ZF x cs:=by
 obtain⟨A,AG,_,_,R,S,B⟩:=DataW.trod_struct underlying117 h;have Q:cs.length=13:=R.trans AF;have AE:A.length=13:=S;obtain⟨AS,T⟩:=Ed (l:=A) (i:=0) U;obtain⟨k,C,AH⟩:=GG rfl (B 0 _ rfl) T;obtain⟨AT,V⟩:=Ed (l:=A) (i:=1) U;obtain⟨l,D,AI⟩:=GG rfl (B 1 _ rfl) V;obtain⟨AX,Z⟩:=Ed (l:=A) (i:=2) U;obtain⟨r,I,AM⟩:=GG rfl (B 2 _ rfl) Z;obtain⟨AY,a⟩:=Ed (l:=A) (i:=3) U;obtain⟨s,J⟩:=AHu rfl (B 3 _ rfl) a;obtain⟨AZ,b⟩:=Ed (l:=A) (i:=4) U;obtain⟨u,K,AN⟩:=GG rfl (B 4 _ rfl) b;obtain⟨Aa,c⟩:=Ed (l:=A) (i:=5) U;obtain⟨v,L,AO⟩:=GG rfl (B 5 _ rfl) c;obtain⟨Ab,d⟩:=Ed (l:=A) (i:=6) U;obtain⟨z,M,AP⟩:=GG rfl (B 6 _ rfl) d;obtain⟨Ac,f⟩:=Ed (l:=A) (i:=7) U;obtain⟨AA,N,AQ⟩:=GG rfl (B 7 _ rfl) f;obtain⟨Ad,g⟩:=Ed (l:=A) (i:=8) U;obtain⟨AC,O,AR⟩:=GG rfl (B 8 _ rfl) g;obtain⟨Ae,i⟩:=Ed (l:=A) (i:=9) U;obtain⟨AD,P,j⟩:=GG rfl (B 9 _ rfl) i;obtain⟨AU,W⟩:=Ed (l:=A) (i:=10) U;obtain⟨m,E,AJ⟩:=GG rfl (B 10 _ rfl) W;obtain⟨AV,X⟩:=Ed (l:=A) (i:=11) U;obtain⟨o,F,AK⟩:=GG rfl (B 11 _ rfl) X;obtain⟨AW,Y⟩:=Ed (l:=A) (i:=12) U;obtain⟨q,G,AL⟩:=GG rfl (B 12 _ rfl) Y;match cs,Q with
 | [c0,c1,c2,c3,c4,c5,c6,c7,c8,c9,c10,c11,c12],_=>
  simp at C D I J K L M N O P E F G;subst C D I J K L M N O P E F G;exact⟨⟨k,l,r,s,u,v,z,AA,AC,AD,m,o,q⟩,rfl,rfl,AHC j⟩
def AKH{n:Nat}{cs:List AB}{y:DataW H × List MemPlace}(h:DataW.trod enc prog w base spare held n 130 cs=some y):
 ∃x:M9,cs=[.int .i64 x.a0,.int .i64 x.a1,.int .i64 x.a2,.int .i64 x.a3,.int .i64 x.a4,.int .i64 x.a5]/\True:=by
 obtain⟨A,a,_,_,K,L,B⟩:=DataW.trod_struct underlying130 h;have J:cs.length=6:=K.trans AF;have Z:A.length=6:=L;obtain⟨b,M⟩:=Ed (l:=A) (i:=0) U;obtain⟨S,C,_⟩:=GG rfl (B 0 _ rfl) M;obtain⟨c,N⟩:=Ed (l:=A) (i:=1) U;obtain⟨T,D,_⟩:=GG rfl (B 1 _ rfl) N;obtain⟨d,O⟩:=Ed (l:=A) (i:=2) U;obtain⟨V,E,_⟩:=GG rfl (B 2 _ rfl) O;obtain⟨f,P⟩:=Ed (l:=A) (i:=3) U;obtain⟨W,F,_⟩:=GG rfl (B 3 _ rfl) P;obtain⟨g,Q⟩:=Ed (l:=A) (i:=4) U;obtain⟨X,G,_⟩:=GG rfl (B 4 _ rfl) Q;obtain⟨i,R⟩:=Ed (l:=A) (i:=5) U;obtain⟨Y,I,_⟩:=GG rfl (B 5 _ rfl) R;match cs,J with
 | [c0,c1,c2,c3,c4,c5],_=>
  simp at C D E F G I;subst C D E F G I;exact⟨⟨S,T,V,W,X,Y⟩,rfl,trivial⟩
def zk{n:Nat}{cs:List AB}{y:DataW H × List MemPlace}(h:DataW.trod enc prog w base spare held n 27 cs=some y):
 ∃x:BH × Nat × AE,cs=[.slice x.1 x.2.2.length x.2.1]/\((x.1=none->x.2.1=0)/\Af w w (.slice x.1 x.2.2.length x.2.1) x.2.2/\((y.1.weights prog 27).all (·<=reachBytes)=true->x.2.2.length<=140737488351232)):=by
 rcases open_slice underlying27 h with ⟨A,_⟩|⟨a,C,B,_,_,_,_,A,_⟩<;>subst A
 .exact qs
 .exact qs
def XD{n:Nat}{cs:List AB}{off:Nat}{B:DataW H × List MemPlace}(D:prog.cellsOf t=1)(C:off<cs.length)
 (A:DataW.trod enc prog w base spare held n t ((cs.drop off).take (prog.cellsOf t))=some B):DataW.trod enc prog w base spare held n t [cs[off]]=some B:=by
 rw[D,Kk C,Qq,List.take_zero] at A;exact A
def AKL:prog.bytesOf 3=8:=AF
def mj(v:AB){n:Nat}{y:DataW H × List MemPlace}(h:DataW.trod enc prog w base spare held n 22 [v]=some y):∃l,Fo w v l/\((y.1.weights prog 22).all (·<=reachBytes)=true->l.length<=1000000000000000000):=by
 obtain⟨D,c,C,O,rfl,G,P,_,_,_,J,L⟩:=bc (λN:Int=>[.int .i64 N]) (λ_ _=>True) 1 U underlying22 lf AG1 J8 h;refine⟨C,⟨D,c,rfl,G,λK=>?_⟩,λhw=>by have:=J hw;rw[AKL] at this;simp only[reachBytes] at this;omega⟩;obtain⟨E,o,ha,F,I⟩:=L K;refine⟨E,o,ha,F,λM B=>?_⟩;have A:=I M _ (BL B) 0 U;simp only[Q9,Ci,A8] at A;rw[A];simp[List.getD,B]
def j9{α:Type}(B:α->List AB->Prop)(A:α->List AB)(C:Nat)(M:0<C)(U:prog.underlying t=some (.slice e))(L:prog.cellsOf e=C)
 (Q:∀{n:Nat} {cs:List AB} {y:DataW H × List MemPlace},DataW.trod enc prog w base spare held n e cs=some y->∃x:α,cs=A x/\B x (A x))(T:∀x,(A x).length=C)(O:0<prog.bytesOf e)
 (v:AB){n:Nat}{y:DataW H × List MemPlace}(J:DataW.trod enc prog w base spare held n t [v]=some y):∃l,L4 C B w l v/\((y.1.weights prog t).all (·<=reachBytes)=true->l.length<=1000000000000000000):=by
 obtain⟨G,c,E,W,rfl,Y,Z,_,S,_,R,V⟩:=bc A (λx _=>B x (A x)) C M U L Q T J;refine⟨E,⟨G,c,rfl,λF x D=>?_⟩,λhw=>by have K:=R hw;have X:=cI E.length O;simp only[reachBytes] at K;omega⟩;obtain⟨I,o,ha,N,P⟩:=V (by have:=(Cd.1 D).1;omega);exact⟨I,o,A x,ha,N,S F x D,P F x D⟩
def AEf{r:Reach}{W:Nat}{v:AB}{d:DataW H}{p:List MemPlace}(f:Value.okWide prog w r W 26 v)(h:DataW.Trod enc prog w base spare held 26 v d p):
 ∃(J K:Ay) (fs:List Mz) (cs:List M9) (R S T V:AB) (z:Int),v=.agg #[R,S,T,V,z]/\((d.weights prog 26).all (·<=reachBytes)=true->Rp w J K fs cs R S T V):=by
 obtain⟨cs,rfl,c⟩:=okWide_struct underlying26 f;obtain⟨Q⟩:=cs;have b:Q.length=5:=c.trans AF;obtain⟨fuel,a⟩:=h;obtain⟨C,y,_,Z,_,i,D⟩:=DataW.trod_struct underlying26 a;have j:C.length=5:=i;obtain⟨AC,E⟩:=Ed (l:=C) (i:=0) U;obtain⟨AD,F⟩:=Ed (l:=C) (i:=1) U;obtain⟨AE,G⟩:=Ed (l:=C) (i:=2) U;obtain⟨AG,I⟩:=Ed (l:=C) (i:=3) U;obtain⟨AI,k⟩:=Ed (l:=C) (i:=4) U;obtain⟨z,L,AA⟩:=GG rfl (D 4 _ rfl) k;match Q,b with
 | [c0,c1,c2,c3,c4],_=>
  simp only[Value.cells] at L;have M:=XD (t:=22) (cs:=[c0,c1,c2,c3,c4]) (off:=0) AF AH ((D 0 _ rfl).trans E);have N:=XD (t:=22) (cs:=[c0,c1,c2,c3,c4]) (off:=1) AF AH ((D 1 _ rfl).trans F);have O:=XD (t:=23) (cs:=[c0,c1,c2,c3,c4]) (off:=2) AF AH ((D 2 _ rfl).trans G);have P:=XD (t:=24) (cs:=[c0,c1,c2,c3,c4]) (off:=3) AF AH ((D 3 _ rfl).trans I);simp only[List.getElem_cons_zero,List.getElem_cons_succ] at M N O P;have Y:c4=.int .i64 z:=by simpa using L
  subst Y;obtain⟨J,q,l⟩:=mj c0 M;obtain⟨K,s,m⟩:=mj c1 N;obtain⟨fs,u,n⟩:=j9 ZF (λA:Mz=>[.int .i64 A.a0,.int .i64 A.a1,.int .i64 A.a2,.bool A.a3,.int .i64 A.a4,.int .i64 A.a5,.int .i64 A.a6,.int .i64 A.a7,.int .i64 A.a8,.int .i64 A.a9,.int .i64 A.Bf,.int .i64 A.Be,.int .i64 A.a12]) 13 U underlying23 AF (λh=>by obtain⟨A,rfl,g⟩:=AHQ h;exact⟨A,rfl,g⟩) J8 K3 c2 O;obtain⟨X,x,o⟩:=j9 iL (λA:M9=>[.int .i64 A.a0,.int .i64 A.a1,.int .i64 A.a2,.int .i64 A.a3,.int .i64 A.a4,.int .i64 A.a5]) 6 U underlying24 AF (λh=>by obtain⟨A,rfl,_⟩:=AKH h;exact⟨A,rfl,rfl⟩) J8 K3 c3 P;refine⟨J,K,fs,X,c0,c1,c2,c3,z,rfl,λB=>?_⟩;injection Z with hd1 hd2;rw[hd1] at B;match C,j with
  | [z0,AJ,z2,z3,z4],_=>
   simp only[A8,Bt,CW] at E F G I;subst E F G I;rw[DataW.weights] at B;simp only[underlying26] at B;exact⟨q,s,u,x,l (PU (j:=0) B rfl rfl),m (PU (j:=1) B rfl rfl),n (PU (j:=2) B rfl rfl),o (PU (j:=3) B rfl rfl)⟩
def AEg{r:Reach}{L:Nat}{v:AB}{d:DataW H}{p:List MemPlace}(Y:Value.okWide prog w r L 28 v)(h:DataW.Trod enc prog w base spare held 28 v d p):
 ∃b,(d.weights prog 28).all (·<=reachBytes)=true->Pf w w v b:=by
 obtain⟨J,a,M,rfl⟩:=okWide_slice underlying28 Y;obtain⟨fuel,hf⟩:=h;obtain⟨I,c,G,g,V,S,j,_,X,hw,_,Z⟩:=bc (y:=(d,p)) (λA:BH × Nat × AE=>[.slice A.1 A.2.2.length A.2.1]) (λA f=>(A.1=none->A.2.1=0)/\Af w w (.slice A.1 A.2.2.length A.2.1) A.2.2/\((f.weights prog 27).all (·<=reachBytes)=true->A.2.2.length<=140737488351232)) 1 U underlying28 AEm zk J8 (v:=.slice J a M) vr;refine⟨G.map λA=>A.2.2,λQ=>⟨I,c,by rw[V,Lj],by rw[Lj];exact S,λF=>?_⟩⟩;rw[Lj] at F;obtain⟨K,o,ha,R,T⟩:=Z F;refine⟨K,o,ha,R,λC k E=>?_⟩;rw[JA,I6] at E;obtain⟨A,B,rfl⟩:=E;obtain⟨N,O,P⟩:=X C A B;have W:=(Cd.1 B).1;have i:=P (hw C W _ Q);refine⟨A.1,A.2.1,?_,O,N,U⟩;have D:=T C A B 0 U;simp only[Q9,Ci,A8] at D;exact D
end
end
