import Derived.Test.YtcpcgpbohiineaaGreatDoorY16
namespace Go.Proofs.YtcpcgpbohiineaaGreatDoor
open Go.RowKit Go.Proofs.Tryz
set_option linter.all false
set_option maxRecDepth 100000
set_option maxHeartbeats 4000000
section
variable{w' Y:AA}
def L4{α:Type}(m:Nat)(H:α->List AB->Prop)(w:AA)(C:List α)(v:AB):Prop:=
 ∃D c,v=.slice D C.length c/\∀E G,C[E]? = some G->∃A o F,D=some ⟨A,o,none⟩/\A<w.heap.size/\H G F/\∀B,B<m->w.cell? ⟨A,o+E*m+B,none⟩=F[B]?
def L4.below{α:Type}{m:Nat}{B:α->List AB->Prop}{w:AA}{A:List α}{v:AB}(G:L4 m B w A v)(D:Below w w w'):L4 m B w' A v:=by
 obtain⟨E,c,rfl,L⟩:=G;refine⟨E,c,rfl,λM P J=>?_⟩;obtain⟨F,o,O,rfl,C,H,I⟩:=L M P J;exact⟨F,o,O,rfl,Co C D.size,H,λN K=>((Ra D).1 _ _ C).trans (I N K)⟩
structure Mz where
 a0:Int
 a1:Int
 a2:Int
 a3:Bool
 a4:Int
 a5:Int
 a6:Int
 a7:Int
 a8:Int
 a9:Int
 Bf:Int
 Be:Int
 a12:Int
def ZF(x:Mz)(u:List AB):Prop:=u=[.int .i64 x.a0,.int .i64 x.a1,.int .i64 x.a2,.bool x.a3,.int .i64 x.a4,.int .i64 x.a5,.int .i64 x.a6,.int .i64 x.a7,.int .i64 x.a8,.int .i64 x.a9,.int .i64 x.Bf,.int .i64 x.Be,.int .i64 x.a12]/\-9223372036854775808<=x.a9/\x.a9<=9223372036854775807
def Rg(B:Nat)(w:AA)(t m:Nat)(v:AB)(n:Nat):Prop:=∃A,w.ownsRow B t m v n A/\∀C∈A,C.oneCell'=true
def Rg.below{B:Nat}{w:AA}{t m n:Nat}{v:AB}(h:Rg B w t m v n)(hb:Below w w w'):Rg B w' t m v n:=by
 obtain⟨C,h,A⟩:=h;exact⟨C,Bl h (S:=[]) CX CE,A⟩
def Xw(t m:Nat)(w:AA)(e:Ending)(w':AA):Prop:=∃B A,e=.returned B/\Rg w w' t m B A/\A<=30/\Below w w w'
def O4:(prog.info? 105).map (λi=>(i.zero,i.size,i.bytes))=some (some (.agg #[(),(),(),false,(),(),(),(),(),(),(),(),(),()]),14,112):=AF
def lg(f:Bm):∀u∈(BP f).toList,u.oneCell'=true:=by simp[BP,Value.oneCell']
structure J1(w X:AA)(t m:Nat)(v:AB)(n:Nat):Prop where
 row:Rg w X t m v n
 AJ:Below w w X
def J1.below{w A:AA}{t m n:Nat}{v:AB}(B:J1 w A t m v n)(C:Below A A Y):J1 w Y t m v n:=⟨B.row.below C,AW B.AJ C⟩
def J1.grow{w A:AA}{t m n k:Nat}{v v':AB}{us D:List AB}(B:J1 w A t m v n)(C:A.ownsRow w t m v n us/\∀u∈us,u.oneCell'=true)(F:Y.ownsRow w t m v' k (us++D))(H:∀u∈D,u.oneCell'=true)(E:A.grownBy Y v.ownBlock):J1 w Y t m v' k:=⟨⟨_,F,λu G=>(E1.1 G).elim (C.2 u) (H u)⟩,PW B.AJ B.AJ.size C.1 E⟩
def AHP(w:AA)(v:AB)(L:List Mz)(h:L4 13 ZF w L v)(AG:L.length<=1000000000000000000):
 AI 13 #[v] w (Xw 105 14 w):=by
 obtain⟨a,c,rfl,_⟩:=id h;have D:=O h;have AC:Hid (J1 w w 105 14 AL 0):=⟨⟨[],Ia _ _ _ _,AH⟩,AN _ _⟩;go_in;go_wp2_with fail;go_loopw [3,4] (λo B wr=>∃i:Nat,B=.int .i64 (i:Int)/\i<=L.length/\i<=12/\J1 w wr 105 14 o i) (λ_ B _=>13-(intOf B).toNat)
 case atStart=>exact⟨0,rfl,U,U,AC.o⟩
 case round=>
  obtain⟨i,rfl,AE,AF,A⟩:=hrel;have AC:=O A;obtain⟨C,hown⟩:=A.row;obtain⟨AJ,AK,rfl⟩:=CG hown.1;have n:=A.AJ.size;by_cases hlt:i<L.length
  .have d1:=Ar i L.length;by_cases y:i<12
   .have E:=Ar i 12;obtain⟨x,q⟩:=BQ L i hlt;obtain⟨t,u,Z,X⟩:=D.o.below AC.o.AJ;injection Z with e1 e2 e3;subst e1 e3;obtain⟨b,o,AM,rfl,AD,⟨rfl,r,s⟩,W⟩:=X i x q;obtain⟨AQ,AR,AV,AW,AX,AY,Aa,Ab,Ac,Ad,AS,AT,AU⟩:=ANr W;go_wp2_with fail;go_call AFw _ _ _ _ _ _ _ _ _ _ _ _ _ _ r s as e w1 ⟨f,rfl,_,hb1⟩;replace AC:=O Bg;obtain⟨C,hown⟩:=AC.o.row;have n:=AC.o.AJ.size;obtain⟨F,G,M,N,P,Q,R,S,T,V,H,I,J,K⟩:=f;simp only[BP];go_wp2_with (at_builtin;go_loud (refine ET AZ _ _ 34 105 AZ underlying34 (.agg #[(),(),(),false,(),(),(),(),(),(),(),(),(),()]) 14 112 U U O4 rfl w _ i C _ [.int .i64 F,.int .i64 G,.int .i64 M,.bool N,.int .i64 P,.int .i64 Q,.int .i64 R,.int .i64 S,.int .i64 T,.int .i64 V,.int .i64 H,.int .i64 I,.int .i64 J,.int .i64 K] rfl C2 rfl wC _ AZ AH U U ?_);intro AO AP k z d)
    have An:=O (AC.o.grow hown k C2 d);exact rB
   .have E:=A4 i 12;exact eX
  .exact q7
end
def lG(l:Ay)(v:AB)(x:Int)(w:AA)(C:Fo w v l)(D:l.length<=1000000000000000000)(E:0<=x)(F:x<=1000000):
 AI 41 #[v,x] w λe B=>(∃y,e=.returned (.int .i64 y))/\w=B:=by
 obtain⟨A,rfl⟩:∃A:Nat,x=(A:Int):=⟨x.toNat,U⟩;go_call WC l v A w C D U as e B ⟨rfl,rfl⟩;exact⟨⟨_,rfl⟩,rfl⟩
def LS(n m:Int)(w:AA)(B:1<=m)(C:m<=1000000000000):AI 5 #[n,m] w λe A=>(∃y,e=.returned (.int .i64 y))/\w=A:=by
 go_call LT n m w B C as e A ⟨y,rfl,_,_,rfl⟩;exact⟨⟨y,rfl⟩,rfl⟩
def AF'(w:AA)(v:AB)(l:Ay)(h:Fo w v l)(H:l.length<=1000000000000000000):
 AI 12 #[v] w (Xw 105 14 w):=by
 have A2:=O h;have AC:Hid (J1 w w 105 14 AL 0):=⟨⟨[],Ia _ _ _ _,AH⟩,AN _ _⟩;go_in;go_wp2_with fail;go_loopw [3,4] (λo A wr=>∃p E:Nat,A=.int .i64 (p:Int)/\1<=p/\p<=3/\E<=6*p/\J1 w wr 105 14 o E) (λ_ A _=>4-(intOf A).toNat)
 case atStart=>exact⟨1,0,rfl,U,U,U,AC.o⟩
 case round=>
  obtain⟨p,E,rfl,S,T,R,G⟩:=hrel;have AC:=O G;obtain⟨X,L⟩:=G.row;obtain⟨V,W,rfl⟩:=CG L.1;by_cases Q:p<=2
  .have J:=LC p 2;go_wp2_with (first
    | (go_at_call 41;refine(lG l _ _ _ fm H U U).mono ?_;rintro C F ⟨⟨A,rfl⟩,rfl⟩)
    | (go_at_call 5;refine(LS _ _ _ U U).mono ?_;rintro C F ⟨⟨A,rfl⟩,rfl⟩)
    | (at_builtin;go_loud (refine ET AZ _ _ 34 105 AZ underlying34 (.agg #[(),(),(),false,(),(),(),(),(),(),(),(),(),()]) 14 112 U U O4 rfl w _ _ _ _ _ rfl C2 rfl wA _ AZ AH U (by exact AC.o.AJ.size) ?_);intro N P B K D;obtain⟨I,M,rfl⟩:=CG B;replace AC:=O (AC.o.grow AC.o.row.choose_spec B C2 D)))
   go_roundw
   case rel=>exact⟨p+1,_,A7,U,U,U,AC.o⟩
   case measure=>exact A5
  .have J:=KI p 2;go_wp2_with (first
    | (go_at_call 41;refine(lG l _ _ _ fm H U U).mono ?_;rintro C F ⟨⟨A,rfl⟩,rfl⟩)
    | (go_at_call 5;refine(LS _ _ _ U U).mono ?_;rintro C F ⟨⟨A,rfl⟩,rfl⟩)
    | (at_builtin;go_loud (refine ET AZ _ _ 34 105 AZ underlying34 (.agg #[(),(),(),false,(),(),(),(),(),(),(),(),(),()]) 14 112 U U O4 rfl w _ _ _ _ _ rfl C2 rfl wA _ AZ AH U (by exact AC.o.AJ.size) ?_);intro N P B K D;obtain⟨I,M,rfl⟩:=CG B;replace AC:=O (AC.o.grow AC.o.row.choose_spec B C2 D)))
   go_ret;exact⟨_,_,rfl,AC.o.row,U,AC.o.AJ⟩
def mq:(prog.info? 131).map (λi=>(i.zero,i.size,i.bytes))=some (some (.agg #[(),(),(),(),(),()]),6,48):=AF
structure M9 where
 a0:Int
 a1:Int
 a2:Int
 a3:Int
 a4:Int
 a5:Int
def iL(x:M9)(u:List AB):Prop:=u=[.int .i64 x.a0,.int .i64 x.a1,.int .i64 x.a2,.int .i64 x.a3,.int .i64 x.a4,.int .i64 x.a5]
def AHc(w:AA)(x:Int):AI 16 #[x] w (Xw 131 6 w):=by
 go_in;go_wp2_with (go_at_call 5;refine(LS _ _ _ U U).mono ?_;rintro A B ⟨⟨C,rfl⟩,rfl⟩)
 go_ret;exact⟨_,6,rfl,⟨_,⟨rfl,.inr ⟨w,6,_,rfl,Bh _,Hf w _,Bh _,AD,rfl,rfl⟩⟩,C2⟩,U,(AN _ _).alloc AK _⟩
def AHU(w:AA)(v:AB)(L:List M9)(h:L4 6 iL w L v)(Av:L.length<=1000000000000000000):
 AI 15 #[v] w (Xw 131 6 w):=by
 obtain⟨a,c,rfl,_⟩:=id h;have S:=O h;have AC:Hid (J1 w w 131 6 AL 0):=⟨⟨[],Ia _ _ _ _,AH⟩,AN _ _⟩;go_in;go_wp2_with fail;go_loopw [3,4] (λo A wr=>∃i:Nat,A=.int .i64 (i:Int)/\i<=L.length/\i<=6/\J1 w wr 131 6 o i) (λ_ A _=>7-(intOf A).toNat)
 case atStart=>exact⟨0,rfl,U,U,AC.o⟩
 case round=>
  obtain⟨i,rfl,At,Au,Y⟩:=hrel;have AC:=O Y;obtain⟨A3,hown⟩:=Y.row;obtain⟨A0,A1,rfl⟩:=CG hown.1;by_cases hlt:i<L.length
  .have d1:=Ar i L.length;by_cases Ao:i<6
   .have t:=Ar i 6;obtain⟨x,e⟩:=BQ L i hlt;obtain⟨Ak,Am,P,N⟩:=S.o.below AC.o.AJ;injection P with e1 e2 e3;subst e1 e3;obtain⟨b,o,AU,rfl,Z,rfl,J⟩:=N i x e;obtain⟨AV,AX,AY,Aa,R,Ab⟩:=ANt J;have f:=O e;go_wp2_with fail;refine OW [⟨35,5,131,#[(),(),(),(),(),()]⟩] [5,11,18,25,32,36] [0,1,2,3,4,6,7,8,9,10,13,14,15,16,17,20,21,22,23,24,27,28,29,30,31,5,11,12,18,19,25,26,32,33,34] [36] (Fr 36 1) AF AF rfl AD AD AF AF AF AF AD AF (pX 35 5) BK BK ?_;refine Ea ?_;have Ac:∀q,wr.drew.cell? ⟨b,q,none⟩=wr.cell? ⟨b,q,none⟩:=λ_=>rfl;rw[<-Ac] at AV AX AY Aa R Ab;have Ap:b<wr.drew.heap.size:=Z;have AO:=O (AN wr wr).drew;generalize wr.drew=H at *;repeat refine Yl ?_
    refine au rfl ?_;intro Ae C K hK;replace AO:=O (AW AO.o C);go_simp;go_at_call 5;go_call LS _ _ _ U U as B u1 ⟨⟨A,rfl⟩,rfl⟩;refine Gt ?_;refine HL ?_;intro Af C K hK;replace AO:=O (AW AO.o C);go_simp;go_at_call 5;go_call LS _ _ _ U U as B u1 ⟨⟨A,rfl⟩,rfl⟩;refine Gt ?_;refine HL ?_;intro Ag C K hK;replace AO:=O (AW AO.o C);go_simp;go_at_call 5;go_call LS _ _ _ U U as B u1 ⟨⟨A,rfl⟩,rfl⟩;refine Gt ?_;refine HL ?_;intro Ah C K hK;replace AO:=O (AW AO.o C);go_simp;go_at_call 5;go_call LS _ _ _ U U as B u1 ⟨⟨A,rfl⟩,rfl⟩;refine Gt ?_;refine HL ?_;intro Ai C K hK;replace AO:=O (AW AO.o C);go_simp;go_at_call 5;go_call LS _ _ _ U U as B u1 ⟨⟨A,rfl⟩,rfl⟩;refine Gt ?_;refine N7 ?_;intro Ad AJ A2 AP AQ AE;replace AO:=O (AW AO.o AJ);obtain⟨g,rfl,F,Q⟩:=NS AP AQ AE;simp only[sets,ptrTo];have Aq:=Q.cell;have As:=Q.frozen;refine HK ?_;intro K hK;refine hK _ _ _ AK (Nt DL (by first|exact F|(simp;omega)) _ _ _ _ _ _) ?_;refine Bn (λH=>∃T V E D W X,AG H g 131 #[.int .i64 T,.int .i64 V,.int .i64 E,.int .i64 D,.int .i64 W,.int .i64 X]/\Below wr wr H) ⟨_,_,_,_,_,_,RV rfl Q _ _ _ _ _ _,Nt AO.o F _ _ _ _ _ _⟩ ?_;rintro r ⟨T,V,E,D,W,X,hY,AM⟩;replace AO:=O AM;refine Dl ?_;obtain⟨_,_,P,N⟩:=S.o.below (AW AC.o.AJ AO.o);injection P with e1 e2 e3;subst e1 e3;obtain⟨Al,Az,AU,I,Z,rfl,J⟩:=N i x f.o;injection I with I;injection I with u y;subst u y;have R:=J 4 AD;simp only[A8,Bt] at R;obtain⟨q0,q1,q2,q3,q4,q5,bC⟩:=hY.y6;have AS:=hY.frozen 4;by_cases M:D=3\/D=4
    .rcases M with rfl|rfl;all_goals
      go_upto_region 8 with (go_at_call 5;refine(LS _ _ _ U U).mono ?_;rintro B u1 ⟨⟨A,rfl⟩,rfl⟩)
      replace hY:=hY.put 4 (.int .i64 (wrap64 (1+A)));simp only[RE,PO,PN] at hY;replace AO:=O (AO.o.setCell (p:=⟨g,4,none⟩) F (.int .i64 (wrap64 (1+A))));generalize wrap64 (1+A)=G at *;generalize r.setCell ⟨g,4,none⟩ G=s at *;obtain⟨q0,q1,q2,q3,q4,q5,bC⟩:=hY.y6;have AS:=hY.frozen 4;by_cases d:G=E
      .have AR:(G==E)=true:=C7.2 d;go_upto_region 10 with (go_at_call 5;refine(LS _ _ _ U U).mono ?_;rintro B u1 ⟨⟨A,rfl⟩,rfl⟩)
       replace hY:=hY.put 4 (.int .i64 (wrap64 (1+A)));simp only[RE,PO,PN] at hY;replace AO:=O (AO.o.setCell (p:=⟨g,4,none⟩) F (.int .i64 (wrap64 (1+A))));generalize wrap64 (1+A)=AT at *;generalize s.setCell ⟨g,4,none⟩ AT=Aj at *;exact fH
      .have AR:(G==E)=false:=Aw.2 d;go_upto_region 10 with fail;exact fH
    .have Ax:(D==3)=false:=Aw.2 (λB=>M (.inl B));have Ay:(D==4)=false:=Aw.2 (λB=>M (.inr B));go_upto_region 10 with fail;exact fH
   .have t:=A4 i 6;exact eX
  .exact q7
section
open Go.Maps (Keyed)
variable{z:Nat}
def Ks(has:Nat->Bool)(ab:Nat->Nat)(key:AB):Option AB:=match key with
 | .int .i64 p=>if 0<=p/\has p.toNat=true then some (.pointer (some ⟨ab p.toNat,0,none⟩)) else none
 | _=>none
def mR:Keyed prog 3:=Maps.int_keyed underlying3
def ma(p:Int)(h:Ec p):keyOf prog 3 (.int .i64 p)=some (.int .i64 p):=
 Maps.keyOf_int_mk underlying3 xV
def xg(u:AA):(zeroValue 162).run prog u=.ok (.pointer none) u:=AF
structure Cs where
 Ak:Nat
 BU:Nat
 am:Nat
 A1:Nat
 t1:AB
 t2:AB
 t3:AB
 c:Nat
 n:Nat
 V:Int->Int->AB
 has:Nat->Bool
 ab:Nat->Nat
 BV:Nat->Nat
 Ce:Nat->AB
def Wo(s:Int)(i:Ins)(g:Cs):Array AB:=#[.int .i64 s,g.t1,g.t2,g.t3,.pointer g.Ak,.map (some g.am),.int .i64 i.last,.pointer g.A1]
structure M_(B:Nat)(w:AA)(A:Nat->List A6)(g:Cs):Prop where
 map:DQ w prog 3 g.am g.n (Ks g.has g.ab)
 acc:∀p,g.has p=true->HR w (g.ab p) (g.BV p) (g.Ce p) (A p)
 no:∀p,g.has p=false->A p=[]
 lo:B<=g.am/\∀p,g.has p=true->B<=g.ab p/\B<=g.BV p/\∀q,(g.Ce p).ownBlock=some q->B<=q
 ap:∀p q,g.has p=true->g.has q=true->p≠q->g.ab p≠g.ab q/\g.BV p≠g.BV q/\∀x,(g.Ce p).ownBlock=some x->(g.Ce q).ownBlock≠some x
 mm:∀p,g.has p=true->g.BV p≠g.am/\g.BV p≠g.BU
structure Cr(B:Nat)(w:AA)(BO:Nat)(s:Int)(i:Ins)(g:Cs):Prop where
 blk:AG w BO 75 (Wo s i g)
 fd:Dj w g.Ak g.BU i.f g.V g.c
 CK:M_ B w i.a g
 lo:B<=BO/\B<=g.Ak/\B<=g.BU
 fa:g.BU≠g.am
def Wp(t:TypeId):Prop:=t=75\/t=231\/t=167
def Wr(B:Nat)(w w':AA):Prop:=∃S,AP S w w'/\(∀E∈S,B<=E)/\∀g C D,AG w g C D->¬Wp C->g∉S
def Wr.of_below{B:Nat}{w w':AA}(h:Below w w w'):Wr B w w':=⟨[],AP.of_below h,Y9,λ_ _ _ _ _ hx=>by cases hx⟩
def Wr.AJ{B:Nat}{w w':AA}(C:Wr B w w')(F:B<=w.heap.size):Below B w w':=by
 obtain⟨S,D,E,_⟩:=C;exact D.below F E
def AG.IR{w:AA}{g b:Nat}{t:TypeId}{cs:Array AB}(F:AG w g t cs)(C:∃E D,w.heap[b]? = some (.map E D)):g≠b:=by
 rintro rfl;obtain⟨E,D,C⟩:=C;have G:w.heap[g]? = some (.cells cs t):=F;rw[G] at C;cases C
section
variable {B:Nat} {w w':AA} {A:Nat->List A6} {g:Cs} {S:List Nat} {BO:Nat} {s:Int} {i:Ins}
def M_.kept(h:M_ B w A g)(hk:AP S w w')(F:∀q t cs,AG w q t cs->t=231\/t=167->q∉S)(h2:g.am∉S)(G:∀p,g.has p=true->g.BV p∉S):M_ B w' A g:=
 ⟨h.map.keep fq,λp D=>(h.acc p D).kept hk (F _ _ _ (h.acc p D).blk (.inl rfl)) (G p D) (λq C=>by
  obtain⟨K,_,H⟩:=(h.acc p D).row;rcases H.2 with ⟨E,_⟩|⟨L,J,cur,E,_,I,_⟩
  .rw[E] at C;cases C
  .rw[E] at C;injection C with C;subst C;exact F _ _ _ I (.inr rfl)),h.no,h.lo,h.ap,h.mm⟩
def Cr.below(h:Cr B w BO s i g)(hb:Below w w w'):Cr B w' BO s i g:=
 ⟨h.blk.below hb h.blk.lt,h.fd.below hb,h.CK.kept (S:=[]) CX (λ_ _ _ _ _ C=>by cases C) (λC=>by cases C) (λ_ _ C=>by cases C),h.lo,h.fa⟩
end
def Cs.with(g:Cs)(p z:Nat):Cs:={ g with n:=g.n+1,has:=λC=>decide (C=p)||g.has C,ab:=λC=>if C=p then z+1 else g.ab C,BV:=λC=>if C=p then z else g.BV C,Ce:=λC=>if C=p then .slice none 0 0 else g.Ce C }
def SX{g:Cs}{p q:Nat}(D:(g.with p z).has q=true):q=p\/q≠p/\g.has q=true:=by
 by_cases C:q=p
 .exact .inl C
 .exact .inr ⟨C,by simpa[Cs.with,C] using D⟩
def x_{g:Cs}{p:Nat}: (g.with p z).ab p=z+1/\(g.with p z).BV p=z/\(g.with p z).Ce p=.slice none 0 0:=by simp[Cs.with]
def Ob{g:Cs}{p q:Nat}(C:q≠p):(g.with p z).ab q=g.ab q/\(g.with p z).BV q=g.BV q/\(g.with p z).Ce q=g.Ce q:=by simp[Cs.with,C]
def HR.HU{w:AA}{ab BV:Nat}{Ce:AB}{E:List A6}(C:HR w ab BV Ce E){q:Nat}(D:Ce.ownBlock=some q):q<w.heap.size:=AS.HU C.row q D
def M_.made{B:Nat}{w O:AA}{A:Nat->List A6}{g:Cs}{p:Nat}(h:M_ B w A g)(Z:B<=w.heap.size)(f:g.BU<w.heap.size)(d:g.has p=false)(b:DQ O prog 3 g.am (g.n+1) (Ks (g.with p w).has (g.with p w).ab))
 (Q:AP [g.am] ((w.alloc (.map #[] 0)).alloc (.cells #[AL,.map (some w),()] 231)) O):M_ B O A (g.with p w):=by
 have j:=h.map.lt;have a:Below w w ((w.alloc (.map #[] 0)).alloc (.cells #[AL,.map (some w),()] 231)):=((AN _ _).alloc AK _).alloc AH _;have I:∀N,N≠g.am->N∉[g.am]:=λN hx=>gN;obtain⟨L,K,M⟩:=x_ (g:=g) (p:=p) (z:=w.heap.size);refine⟨b,λC D=>?_,λC D=>?_,⟨h.lo.1,λC D=>?_⟩,λC J D e R=>?_,λC D=>?_⟩
 .rcases SX D with rfl|⟨H,D⟩
  .rw[L,K,M,h.no C d];exact(HR.new w).kept Q (I _ U) (I _ U) Pq
  .obtain⟨E,F,G⟩:=Ob (g:=g) (p:=p) (z:=w.heap.size) (q:=C) H;rw[E,F,G];have ha:=h.acc C D;refine(ha.below a).kept Q (I _ ?_) (I _ (h.mm C D).1) (λN hx=>I _ ?_)
   .exact ha.blk.IR h.map.isMap
   .rintro rfl;obtain⟨k,_,c⟩:=ha.row;exact bX c h.map.isMap hx.symm
 .have:g.has C=false/\C≠p:=by simpa[Cs.with,and_comm] using D
  exact h.no C this.1
 .rcases SX D with rfl|⟨H,D⟩
  .rw[L,K,M];exact⟨U,Z,λ_ h=>by cases h⟩
  .obtain⟨E,F,G⟩:=Ob (g:=g) (p:=p) (z:=w.heap.size) (q:=C) H;rw[E,F,G];exact h.lo.2 C D
 .rcases SX D with rfl|⟨H,T⟩<;>rcases SX e with rfl|⟨P,V⟩
  .exact absurd rfl R
  .obtain⟨E,F,G⟩:=Ob (g:=g) (p:=C) (z:=w.heap.size) (q:=J) P;have ha:=h.acc J V;rw[L,K,M,E,F,G];exact⟨by have:=ha.blk.lt;omega,by have:=ha.map.lt;omega,λ_ h=>by cases h⟩
  .obtain⟨E,F,G⟩:=Ob (g:=g) (p:=J) (z:=w.heap.size) (q:=C) H;have ha:=h.acc C T;rw[L,K,M,E,F,G];exact⟨by have:=ha.blk.lt;omega,by have:=ha.map.lt;omega,λ_ _ h=>by cases h⟩
  .obtain⟨E,F,G⟩:=Ob (g:=g) (p:=p) (z:=w.heap.size) (q:=C) H;obtain⟨W,X,Y⟩:=Ob (g:=g) (p:=p) (z:=w.heap.size) (q:=J) P;rw[E,F,G,W,X,Y];exact h.ap C J T V R
 .rcases SX D with rfl|⟨H,D⟩
  .rw[K];exact⟨by show w.heap.size≠g.am;omega,by show w.heap.size≠g.BU;omega⟩
  .rw[(Ob (g:=g) (p:=p) (z:=w.heap.size) (q:=C) H).2.1];exact h.mm C D
def ALH{g:Cs}{p:Nat}(x:AB)(F:x≠.int .i64 (p:Int)):Ks (g.with p z).has (g.with p z).ab x=Ks g.has g.ab x:=by
 unfold Ks;split
 .rename_i E;by_cases D:0<=E
  .have C:E.toNat≠p:=λC=>F (by rw[<-C];congr 1;omega);simp[Cs.with,D,C]
  .simp[D]
 .rfl
def ALJ{g:Cs}{p:Nat}: Ks (g.with p z).has (g.with p z).ab p=some (.pointer (some ⟨z+1,0,none⟩)):=by simp[Ks,Cs.with]
end
section
open Go.Maps (Keyed)
def M_.look{B:Nat}{w:AA}{A:Nat->List A6}{g:Cs}(h:M_ B w A g)(p:Nat)(E:p<100):
 (Instr.lookup 71 (.map (some g.am)) p false).run prog w=.ok (.pointer (if g.has p=true then some ⟨g.ab p,0,none⟩ else none)) w:=by
 have D:=h.map.look mR underlying71 (xg w) (ma (p:Int) ⟨U,U⟩);rw[D];unfold Ks;cases C:g.has p<;>simp[C]
def ANs(B:Nat)(w:AA)(D:Nat)(s:Int)(i:Ins)(g:Cs)(p:Nat)(e:Ending)(C:AA):Prop:=
 ∃A,e=.returned (.pointer (some ⟨A.ab p,0,none⟩))/\A.has p=true/\Cr B C D s i A/\A.n<=g.n+1/\A.c=g.c/\AP [g.am] w C
def AES(B:Nat)(w:AA)(G:Nat)(s:Int)(i:Ins)(g:Cs)(p:Nat)(h:Cr B w G s i g)(x:B<=w.heap.size)(R:p<100)(AV:g.n<=30000):
 AI 62 #[.pointer G,p] w (ANs B w G s i g p):=by
 have C:=h.CK.look p R;obtain⟨b,c,d,f,j,l,m,n,o⟩:=h.blk.BF;have Ag:=O h;cases F:g.has p with
 | true=>
  rw[F] at C;simp only[CI] at C;have I:=O F;go_in;go_wp2_with fail;go_ret;exact⟨g,rfl,I.o,Ag.o,U,rfl,AP.refl _ _⟩
 | false=>
  rw[F] at C;simp only[DW,DV] at C;have I:=O F;go_in;go_wp2_with fail;refine OX [g.am] [6] [5] [(0,0),(0,1),(0,2),(0,3),(0,4),(2,5),(3,6)] AF AF rfl AD AF AF BK ?_;refine Po ?_;replace Ag:=O Ys;have Y:=O Yr;have AE:w.heap.size=w.drew.heap.size:=rfl;generalize w.drew=A at *;obtain⟨b,c,d,f,j,l,m,n,o⟩:=Ag.o.blk.BF;iterate 5 refine GM ?_
  refine WO rfl ?_;intro a L;go_simp;go_at_call 116;go_call AER _ as e w' ⟨rfl,rfl⟩;have AC:=Ag.o.CK.map.keep (((AN A A).alloc AK (.map #[] 0)).alloc AH (.cells #[AL,.map (some A),()] 231) |>.block _ Ag.o.CK.map.lt);obtain⟨T,AX,AB,y⟩:=AC.store mR underlying71 Hr (ma (p:Int) ⟨U,U⟩) (val:=.pointer (some ⟨A.heap.size+1,0,none⟩)) ALJ ALH;have E:AP [g.am] _ T:=AP.HW y AH;have D:=((AN A A).alloc AK (.map #[] 0)).alloc AH (.cells #[AL,.map (some A),()] 231);have v:=Ag.o.CK.made (by rw[<-AE];exact x) Ag.o.fd.map.lt I.o AB E;refine L _ _ (AP.of_below D) ?_;refine Ow rfl ?_;intro a L;go_simp;refine L _ _ E ?_;refine LU ?_;have Q:∀H S K,AG A H S K->H∉[g.am]:=λH S K M=>by
   have:=M.IR Ag.o.CK.map.isMap;exact E_
  have J:Hid (Cr B T G s i (g.with p A)):=⟨(Ag.o.blk.below D Ag.o.blk.lt).kept E (Q _ _ _ Ag.o.blk),(Ag.o.fd.below D).kept E (Q _ _ _ Ag.o.fd.blk) (by simpa using Ag.o.fa) (λH K M P=>by
   simp only[Aj,A',A_] at P;subst P;exact((M.IR (Ag.o.CK.map.keep (D.block _ Ag.o.CK.map.lt)).isMap) rfl).elim),v,Ag.o.lo,Ag.o.fa⟩
  have Z:=O ((AP.of_below (AW Y.o D)).trans E);have C:=J.o.CK.look p R;have N:(g.with p A).has p=true:=by simp[Cs.with]
  rw[Ab N] at C;obtain⟨AJ,AM,AO,AQ,AR,r,AS,AT,AU⟩:=J.o.blk.BF;have t:(g.with p A).am=g.am:=rfl;rw[t] at C r;have V:=O N;have W:Hid ((g.with p A).n<=g.n+1):=Bh _;have X:Hid ((g.with p A).c=g.c):=rfl;generalize g.with p A.heap.size=u at *;go_wp2_with fail;go_ret;exact⟨u,rfl,V.o,J.o,W.o,X.o,Z.o⟩
end
