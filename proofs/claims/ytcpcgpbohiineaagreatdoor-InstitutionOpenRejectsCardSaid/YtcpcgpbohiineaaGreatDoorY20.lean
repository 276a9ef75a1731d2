import Derived.Test.YtcpcgpbohiineaaGreatDoorY16
namespace Go.Proofs.YtcpcgpbohiineaaGreatDoor
open Go.RowKit Go.Proofs.Tryz
set_option linter.all false
set_option maxRecDepth 100000
set_option maxHeartbeats 4000000
section
variable{n c m lc c6:Nat}{w':AA}{us:List (List AB)}{a la a6:BH}
def JU{P:Program}{ops:Array Oper}{rest:List Oper}{o:Oper}{a:Act}{Q:Exit->Act->AA->Prop}(G:o.guard=none)(s x:Operand)(ts B:TypeId)
 (I:o.op=.call { callee:=.builtin .append,args:=#[s,x],argTypes:=#[ts,ts] })(K:P.underlying ts=some (.slice B))(z:AB)(k D:Nat)(V:0<k)(W:D<=1000)
 (T:(P.info? B).map (λi=>(i.zero,i.size,i.bytes))=some (some z,k,D))(e:z.cells.size=k)
 (A:Nat)(v:AB)(n:Nat)(l:List AB)(wr:AA)(J:a.eval s=v)(hown:wr.ownsRow A B k v n l)(y:AB)(m:Nat)(C:List AB)(Z:C.length=m*k)(X:∀u∈C,u.oneCell'=true)
 (L:a.eval x=y)(Y:FV wr y m C)(q:n+m<=100000000)(R:A<=wr.heap.size)
 (h:∀v' w',w'.ownsRow A B k v' (n+m) (l++C)->Below A wr w'->wr.grownBy w' v.ownBlock->wpList P ops Q rest (a.put o.dst v') w') :
 wpList P ops Q (o::rest) a wr:=by
 obtain⟨M,H,b,f,d⟩:=info_parts T;have F:∀v' w',w'.ownsRow A B k v' (n+m) (l++C)->wr.grownBy w' v.ownBlock->wpList P ops Q rest (a.put o.dst v') w':=by
  intro v' w' E hg;refine h v' w' E ⟨hg.os,hg.tape,hg.output,hg.size,λj r=>hg.block j U ?_⟩ hg;exact YO
 rcases Y with ⟨rfl,rfl⟩|⟨N,c,rfl,S⟩
 .have O:C=[]:=Jw U;subst O;exact wpList_append_own_none G s x ts I A B M k K H v n l J hown L (F _ _ iK ⟨rfl,rfl,rfl,Bh _,λ_ _ _=>rfl⟩)
 .refine wpList_append_own_at _ G s x ts I A B M z k D K H b f d e V v n l J hown N m c C L Z S X Hr (by have:(n+m)*D<=(n+m)*1000:=Tm _ W;omega) R ?_;intro v' w' E hg _ _;exact F v' w' E hg
def Hv{B:Nat}{w:AA}{t:Nat}{v:AB}{A:List AB}(h:w.ownsRow B t m v n A):FV w v n A:=by
 rcases h.2 with ⟨rfl,E⟩|⟨I,D,cur,rfl,_,F,J,_,_,G⟩
 .exact .inl ⟨rfl,E⟩
 .refine .inr ⟨_,D,rfl,λH M C=>?_⟩;have K:H<A.length:=(Cd.1 C).1;have L:A.length=n*m:=h.1;rw[Mo,DP,AG.cell (t:=t) (cs:=cur) F,<-C,<-G,Lc,Ab U];simp
structure GN(B:Nat)(w:AA)(A1:Nat)(bs:AE)(L:List AE)(fl:Int):Prop where
 ex:∃D5 iz,AG w A1 58 #[D5,iz,fl]/\w.ownsRow B 5 1 D5 bs.length (A3 bs)/\Gs B w L iz
def GN.below{B:Nat}{w:AA}{F:Nat}{C:AE}{A:List AE}{D:Int}(h:GN B w F C A D)(hb:Below w w w'):GN B w' F C A D:=by
 obtain⟨I,J,E,G,H⟩:=h.ex;exact⟨I,J,E.below hb E.lt,Bl (S:=[]) G CX CE,H.below hb⟩
def gJ(B:Nat)(w:AA)(A:Nat)(D:AE)(C:List AE)(E:Int)(b:AE)(e:Ending)(w':AA):Prop:=
 e=.returned ()/\GN B w' A (D++be 2 (b.length:Int)++b++be 4 (Da b:Int)) (C++[b]) E/\AP [A] w w'
def aY{B:Nat}{w:AA}{A:Addr}{b:AE}(h:Af B w (.slice (some A) n c) b):FV w (.slice (some A) n c) n (A3 b):=by
 obtain⟨J,K,F,M,G⟩:=h;injection F with h1 h2 h3;subst h1 h2 h3;refine .inr ⟨A,c,rfl,λD O C=>?_⟩;have N:D<b.length:=by have:=(Cd.1 C).1;rwa [RX] at this
 obtain⟨L,o,ha,_,E⟩:=G U;injection ha with ha;subst ha;rw[Mo];simp only[A3,JA,I6] at C;obtain⟨I,H,rfl⟩:=C;exact E D I H
def ABD{B:Nat}{w:AA}{D:List AE}(C:Rows (If B w) D us):∀u∈us.flatten,u.oneCell'=true:=by
 induction C with
 | nil=>simp
 | cons C _ E=>
  intro u A;rw[Lb] at A;rcases E1.1 A with A|A
  .exact C.one u A
  .exact E u A
def Af.l4{B:Nat}{w:AA}{E:Nat}{b:AE}{K L M N O P:_}{F:Int}(h:Af B w (.slice a n c) b)(T:1<=b.length)(I:AG w E 58 #[.slice K L M,.slice N O P,F]):∀C,a=some C->C.block≠E:=by
 obtain⟨Q,R,H,V,J⟩:=h;injection H with h1 h2 h3;subst h1;obtain⟨S,o,ha,W,G⟩:=J U;intro C A D;rw[ha] at A;injection A with A;subst A;simp only at D;subst D;have:=G 0 (b[0]' U) (BL U);rw[I.cell] at this;rcases o with _|_|_|o<;>simp at this
def Af.Ta{B:Nat}{w:AA}{b:AE}{S:List Nat}(h:Af B w (.slice a n c) b)(I:AP S w w')(Q:B<=w.heap.size)(K:∀C,a=some C->C.block∉S):Af B w' (.slice a n c) b:=by
 obtain⟨O,P,G,E,M⟩:=h;injection G with h1 h2 h3;subst h1 h3;refine⟨a,c,by rw[h2],E,λJ=>?_⟩;obtain⟨A,o,ha,H,F⟩:=M J;subst ha;refine⟨A,o,rfl,H,λD N L=>?_⟩;exact(Th (a:=⟨A,o+D,none⟩) (I.block A U (K _ rfl))).trans (F D N L)
def AGq{B:Nat}{w C:AA}{A:Nat}{b L:AE}{J:List AE}{K:Addr}{X W:Nat}{V:BH}{M:Int}(Y:B<=w.heap.size)(R:A<w.heap.size)(F:Below w w C)
 (S:AG w A 58 #[.slice V X W,.slice la m lc,M])(Q:Gs B w J (.slice la m lc))(U:Af w w (.slice (some K) n c) b)(P:1<=b.length){q:Nat}(T:C.ownsRow w 5 1 (.slice a6 q c6) q (A3 L)):
 Hid (AP [A] w (C.setCell ⟨A,0,none⟩ (.slice a6 q c6)))/\Hid (Gs B (C.setCell ⟨A,0,none⟩ (.slice a6 q c6)) J (.slice la m lc))/\Hid (Af w (C.setCell ⟨A,0,none⟩ (.slice a6 q c6)) (.slice (some K) n c) b)/\
  Hid (AG (C.setCell ⟨A,0,none⟩ (.slice a6 q c6)) A 58 #[.slice a6 q c6,.slice la m lc,M])/\Hid ((C.setCell ⟨A,0,none⟩ (.slice a6 q c6)).ownsRow w 5 1 (.slice a6 q c6) q (A3 L)):=by
 have RM:=S.below F R;have G:AP [A] C (C.setCell ⟨A,0,none⟩ (.slice a6 q c6)):=(AP.refl _ _).setCell AH _;have H:∀I D E,AG C D I E->I≠58->D∉[A]:=λI D E hg ht hm=>by
  exact rA
 have N:=U.below F;refine⟨O ((AP.of_below F).trans G),O ((Q.below F).kept G (λD E hg=>H _ D E hg AD) (λD E hg=>H _ D E hg AD)),O (N.Ta G F.size (λa ha=>?_)),O (RM.put 0 _),O (Bl T G (λD E hg=>H _ D E hg AD))⟩;have:=N.l4 P RM a ha;simpa using this
def AGp{B:Nat}{w A G E:AA}{F I:Nat}{b M:AE}{D:List AE}{N K:Nat}{L J:BH}{f:AB}{T:Int}(j:B<=w.heap.size)(W:AP [F] w A)
 (Z:AG A F 58 #[.slice a6 I c6,.slice la D.length lc,T])(l:A.ownsRow w 5 1 (.slice a6 I c6) I (A3 (M++be 2 (b.length:Int)++b++be 4 (Da b:Int))))(s:Rows (If B A) D us)(Q:Below A A G)
 (e:G.ownsRow A 27 1 f D.length us.flatten)(q:G.ownsRow A 5 1 (.slice L b.length N) b.length (A3 b))(hg:G.grownBy E f.ownBlock)
 (o:E.ownsRow A 27 1 (.slice J (D.length+1) K) (D.length+1) (us.flatten++[.slice L b.length N]))(k:I=(M++be 2 (b.length:Int)++b++be 4 (Da b:Int)).length):
 gJ B w F M D T b (.returned ()) (E.setCell ⟨F,1,none⟩ (.slice J (D.length+1) K)):=by
 have u:=W.size;have P:Below A A E:=PW Q Q.size e hg;have RM:=Z.below P Z.lt;obtain⟨i,d,hS⟩:=Gd e hg;have V:∀g C,AG G g 5 C->g∉i:=λg C hb hm=>by
  exact eP
 have H:AP [F] E (E.setCell ⟨F,1,none⟩ (.slice J (D.length+1) K)):=(AP.refl _ _).setCell (by simp) _;have Y:∀S g C,AG E g S C->S≠58->g∉[F]:=λS g C hg ht hm=>by
  exact rA
 have O:∀g C,AG E g 5 C->g∉[F]:=λg C hg=>Y _ g C hg AD;have X:=Bl (Bl l (S:=[]) (AP.of_below P) CE) H O;rw[k] at X RM;refine⟨rfl,⟨_,_,RM.put 1 _,F_ X j,?_⟩,W.trans ((AP.of_below P).trans H)⟩;have t:=s.mono (λ_ _ R=>If.kept (S:=[]) R (AP.of_below Q) CE);have r:If B (E.setCell ⟨F,1,none⟩ (.slice J (D.length+1) K)) b [.slice L b.length N]:=⟨_,rfl,Bl (Bl (F_ q U) d V) H O⟩;exact AS.snoc (t.mono (λ_ _ R=>(R.kept d V).kept H O)) r (Bl (F_ o U) H (λg C hg=>Y _ g C hg AD))
def kB(B:Nat)(w:AA)(L:Nat)(A:AE)(D:List AE)(r:Int)(v:AB)(b:AE)(h:GN B w L A D r)(s:B<=w.heap.size)(AG:Af w w v b)(Ac:1<=b.length)(BL:b.length<=400)(BM:A.length<=10000000)(BN:D.length<20000):
 AI 11 #[.pointer L,v] w (gJ B w L A D r b):=by
 obtain⟨Ar,Bg,T,AC,x⟩:=h.ex;have Q:=O AG;obtain⟨a,c,rfl,BO,Am⟩:=AG;obtain⟨k,l,rfl,_,_⟩:=Am U;have BF:((b.length:Int)==0)=false:=Aw.2 U;have BG:=A4 400 b.length;have BH:=KI 20000 D.length;obtain⟨la,lc,rfl,BW⟩:=x.slice;have AS:=O AC;have AQ:=O x;obtain⟨AJ,AN,AM,Al⟩:∃AJ AN AM,Ar=.slice AJ AN AM:=by rcases AC.2 with ⟨rfl,_⟩|⟨BK,BE,cur,rfl,_⟩<;>exact⟨_,_,_,rfl⟩
 subst Al;obtain⟨o,J,S⟩:=T.y2;have BX:=S;go_in;go_wp2_with (at_builtin;go_loud (refine JU AZ _ _ 27 5 AZ underlying27 (.int .u8 0) 1 1 AD AD HH rfl w _ 0 [] _ rfl ⟨rfl,.inl ⟨rfl,rfl⟩⟩ _ A.length (A3 A) LA (KV A) rfl (Hv AS.o) U AK ?_);intro BZ As F Ad BQ;rw[DP,Dg] at F;obtain⟨Az,A_,rfl⟩:=CV F)
 have C:=O Ad;go_call Ei (b.length:Int) 2 2 _ rfl AD as e X2 ⟨v2,rfl,G,hb2,_⟩;have Y:=C.o.size;replace C:=O (AW C.o hb2);replace F:=Bl F (S:=[]) R5 CE;replace G:=Gc G Y;rw[Dn] at G;obtain⟨A1,BA,rfl⟩:=CV G;have An:=C.o.size;have BP:=RT b;go_wp2_with (first
  | (at_builtin;go_loud (refine JU AZ _ _ 27 5 AZ underlying27 (.int .u8 0) 1 1 AD AD HH rfl w _ A.length (A3 A) _ rfl (by exact F) _ 2 (A3 (be 2 (b.length:Int))) vw (KV _) rfl (Hv G) U An ?_);intro Bb Au V Ag BR;rw[<-RY] at V;obtain⟨A2,BB,rfl⟩:=CV V;have M:=O (C.o.trans Ag);have Ao:=M.o.size)
  | (at_builtin;go_loud (refine JU AZ _ _ 27 5 AZ underlying27 (.int .u8 0) 1 1 AD AD HH rfl w _ (A.length+2) (A3 (A++be 2 (b.length:Int))) _ rfl (by exact V) (.slice (some ⟨k,l,none⟩) b.length c) b.length (A3 b) LA (KV _) rfl (aY (Q.o.below M.o)) U Ao ?_);intro Bc Av H Ah BS;rw[<-RY] at H;obtain⟨A5,BC,rfl⟩:=CV H;have Z:=O (M.o.trans Ah)))
 go_call cn _ _ b _ (Q.o.below Z.o) U as e w' ⟨rfl,rfl⟩;have C:=Z;generalize Aj:Da b=q at *;have AO:=O Aj;go_wp2_with fail;go_call Ei (q:Int) 4 4 _ rfl AD as e Ax ⟨v5,rfl,I,IW,_⟩;have Y:=C.o.size;replace C:=O (AW C.o IW);replace H:=Bl H (S:=[]) R9 CE;replace I:=Gc I Y;rw[Dn] at I;obtain⟨AX,Aa,rfl⟩:=CV I;have Ap:=C.o.size;go_wp2_with (first
  | (at_builtin;go_loud (refine JU AZ _ _ 27 5 AZ underlying27 (.int .u8 0) 1 1 AD AD HH rfl w _ (A.length+2+b.length) (A3 (A++be 2 (b.length:Int)++b)) _ rfl (by exact H) (.slice AX 4 Aa) 4 (A3 (be 4 (q:Int))) vw (KV _) rfl (Hv I) U Ap ?_);intro Bd AU W Ai BT;rw[<-RY] at W;obtain⟨a6,c6,rfl⟩:=CV W;have d:=O (C.o.trans Ai);have K:=T.below d.o S;have o:=K.cell 0;have J:=K.cell 1;have BI:=K.frozen 0;have A9:=K.lt;simp only[CH,A8,Bt] at o J;obtain⟨g,AR,AT,P,i⟩:=AGq s S d.o T AQ.o Q.o Ac W)
  | (at_builtin;generalize AU.setCell ⟨L,0,none⟩ (.slice a6 (A.length+2+b.length+4) c6)=j at *;obtain⟨us,AF,z⟩:=AR.o;go_loud (refine JU AZ _ _ 28 27 AZ underlying28 AL 1 24 AD AD ey rfl j _ 0 [] _ rfl ⟨rfl,.inl ⟨rfl,rfl⟩⟩ (.slice la D.length lc) D.length us.flatten (by rw[z.1]) (ABD AF) rfl (Hv z) U AK ?_);intro Be AV E t BU;rw[DP,Dg] at E;obtain⟨A6,BD,rfl⟩:=CV E;have f:=O t;have Aq:=t.size)
  | (at_builtin;go_loud (refine JU AZ _ _ 27 5 AZ underlying27 (.int .u8 0) 1 1 AD AD HH rfl AV _ 0 [] _ rfl ⟨rfl,.inl ⟨rfl,rfl⟩⟩ (.slice (some ⟨k,l,none⟩) b.length c) b.length (A3 b) LA (KV _) rfl (aY (AT.o.below (f.o.mono g.o.size))) U AK ?_);intro Bf Ay X u BV;rw[DP,Dg] at X;obtain⟨AY,Ab,rfl⟩:=CV X;replace E:=Bl E (S:=[]) (AP.of_below u) CE;have N:=O (AW f.o u);have BY:=N.o.size)
  | (at_builtin;go_loud (refine ET AZ _ _ 28 27 AZ underlying28 AL 1 24 U U ey rfl j _ D.length us.flatten _ [.slice AY b.length Ab] rfl C2 rfl (by exact E) _ AZ AH U U ?_);intro Ba At y Ae Ak;obtain⟨A0,A',rfl⟩:=CG y;have R:=P.o.below (N.o.trans Ae) P.o.lt;have J:=R.cell 1;have BJ:=R.frozen 1;have A7:=R.lt;simp only[CH,A8,Bt] at J))
 go_ret;rw[<-AO.o] at i;exact AGp s g.o P.o i.o AF N.o E (Gc X Aq) Ak y FD
end
section
variable{Y:AA}{us:List (List AB)}
attribute [local irreducible] Cu
def Rx(w:AA)(ab:Nat)(E:List A6)(e:A6)(B:Ending)(A:AA):Prop:=
 match EI E e with
 | some F=>B=.returned ()/\∃D,HQ A ab D F/\AP [ab] w A/\(∀C,D.ownBlock=some C->w.heap.size<=C)
 | none=>(∃c,c≠0/\B=.returned (.int .i64 c))/\Below w w A
def V0{w A:AA}{ab:Nat}{E:List A6}{e:A6}{c:Int}(B:EI E e=none)(D:c≠0)(C:Below w w A):Rx w ab E e (.returned c) A:=by
 unfold Rx;rw[B];exact⟨⟨c,D,rfl⟩,C⟩
structure Ms(w X:AA)(ab:Nat)(va:AB)(E:List A6)(eb:Nat)(e:A6):Prop where
 acc:HQ X ab va E
 Cg:AG X eb 167 #[e.m,e.k,e.w,e.n,e.a]
 AJ:Below w w X
def Ms.below{w B:AA}{ab:Nat}{F:AB}{E:List A6}{D:Nat}{e:A6}(A:Ms w B ab F E D e)(C:Below B B Y):Ms w Y ab F E D e:=
 ⟨A.acc.below C,A.Cg.below C A.Cg.lt,AW A.AJ C⟩
def AGY{m:Int}{E:List A6}{i:Nat}{e:A6}(h:IV m (E.take i)=false)(A:E[i]? = some e):IV m (E.take (i+1))=decide (m<e.m):=by
 obtain⟨hi,rfl⟩:=Cd.1 A;unfold IV at h ⊢;exact qT
def Ms.fin{w A:AA}{ab:Nat}{N v':AB}{E:List A6}{H:Nat}{e:A6}(h:Ms w A ab N E H e)(hw:ab<w.heap.size)(K:EI E e=some (E++[e]))(M:Rows M4 E us)(G:Y.ownsRow A 167 5 v' (E.length+1) (us.flatten++[.int .i64 e.m,.int .i64 e.k,.int .i64 e.w,.int .i64 e.n,.int .i64 e.a]))(hb:Below A A Y):
 Rx w ab E e (.returned ()) (Y.setCell ⟨ab,0,none⟩ v'):=by
 have D:=h.acc.blk.below hb h.acc.blk.lt;have C:AP [ab] Y (Y.setCell ⟨ab,0,none⟩ v'):=(AP.refl _ _).setCell AH _;unfold Rx;rw[K];refine⟨rfl,v',⟨D.put 0 _,AS.kept (AS.snoc M (y:=e) rfl (F_ G J_)) C (λI P L F=>?_) BW⟩,((AP.of_below h.AJ).trans CX).trans C,λI B=>?_⟩
 .simp only[Aj,A',A_] at F;subst F;exact absurd (L.same D) AD
 .rcases G.2 with ⟨rfl,_⟩|⟨Q,O,cur,rfl,J,_⟩
  .simp[Value.ownBlock] at B
  .simp[Value.ownBlock] at B;subst B;exact Ap h.AJ.size J
def bY{w:AA}{B t m n:Nat}{v:AB}{G:List AB}(E:w.ownsRow B t m v n G):∀A D c,v=.slice (some A) D c->A.block<w.heap.size:=by
 intro A D c C;rcases E.2 with ⟨rfl,_⟩|⟨I,H,cur,rfl,_,F,_⟩
 .cases C
 .injection C with h1;injection h1 with h1;subst h1;exact AG.lt (t:=t) (cs:=cur) F
def ABC{E:List A6}(B:Rows M4 E us):∀u∈us.flatten,u.oneCell'=true:=by
 induction B with
 | nil=>simp
 | cons B _ C=>
  intro u A;rw[Lb] at A;rcases E1.1 A with A|A
  .rw[B] at A;simp only[Aj,A',A_] at A;rcases A with rfl|rfl|rfl|rfl|rfl<;>rfl
  .exact C u A
def ABA(w:AA)(ab:Nat)(AQ:AB)(E:List A6)(e:A6)(h:HQ w ab AQ E)(AV:KC E)(A:hP e)(An:E.length<=30000):
 AI 73 #[.pointer ab,.agg #[e.m,e.k,e.w,e.n,e.a]] w (Rx w ab E e):=by
 have s:=O (λw=>ABk e w (by have:=A.m;exact⟨U,U⟩));have u:=(AN w w).alloc AK (.cells #[e.m,e.k,e.w,e.n,e.a] 167);have AC:Hid (Ms w (w.alloc (.cells #[e.m,e.k,e.w,e.n,e.a] 167)) ab AQ E w e):=⟨h.below u,AG.new _ _ _,u⟩;have V:=O AV;have AY:=h.blk.lt;obtain⟨S,T,rfl,Ao⟩:=h.row.slice;have AT:Hid ((0<=e.k/\e.k<=1099511627776)/\(0<=e.w/\e.w<=1099511627776)/\(0<=e.n/\e.n<=1099511627776)):=⟨A.k,A.w,A.n⟩;obtain⟨m,k,ww,n,a⟩:=e;simp only at s AC AT ⊢;go_in;go_wp2_with fail;generalize w.alloc (.cells #[m,k,ww,n,a] 167)=Ab at *;go_call s.o _ as en w1 ⟨rfl,hb1⟩;replace AC:=O Bg;generalize c:FN ⟨m,k,ww,n,a⟩=Aa at *;cases Aa with
 | false=>
  go_wp2_with fail;go_ret;exact V0 (kw c) AD AC.o.AJ
 | true=>
  have Gu:=O c;have y:=T7 c;simp only at y;obtain⟨Ad,Ae,_⟩:=y;have AW:=V.o.Nw;obtain⟨Ah,Ai⟩:=AW;go_wp2_with fail;go_loopw [5] (λf wr=>∃i:Nat,f=.int .i64 (i:Int)/\i<=E.length/\Ms w wr ab (.slice S E.length T) E w ⟨m,k,ww,n,a⟩/\Hid (IV m (E.take i)=false)) (λf _=>E.length-(intOf f).toNat)
  case atStart=>exact⟨0,rfl,Az _,AC.o,by simp[Hid,IV]⟩
  case round=>
   obtain⟨i,rfl,Am,A,o⟩:=hrel;have AC:=O A;by_cases AX:i<E.length
   .have dl:=Ar i E.length;obtain⟨e,AJ⟩:=BQ E i AX;have j:=O AJ;have r:=O (AGY o.o AJ);obtain⟨D,F⟩:=AC.o.acc.blk.y1;obtain⟨I,J,L,M,N,P⟩:=AC.o.Cg.DY;go_wp2_with fail;refine DB [] [0,1,2,3,4,5,6,7,8,9,10] wr AF AF rfl AD AF BK ?_;refine Mu ?_;replace AC:=O Di;have G:wr.heap.size=wr.drew.heap.size:=rfl;rw[G];generalize wr.drew=W at *;obtain⟨Ak,rfl,Al,Ap,_,_,_,_⟩:=AC.o.acc.cells i e j.o;obtain⟨D,F⟩:=AC.o.acc.blk.y1;obtain⟨I,J,L,M,N,P⟩:=AC.o.Cg.DY;cases AE:decide (m<e.m) with
    | true=>
     have hN:EI E ⟨m,k,ww,n,a⟩=none:=kv (Nl.2 ⟨e,Bu j.o,AE⟩);refine Yb ?_;go_wp2_with fail;go_ret;exact V0 hN AD AC.o.AJ
    | false=>
     rw[AE] at r;refine Yb ?_;go_wp2_with fail;go_roundw
     case rel=>exact⟨i+1,A7,U,AC.o,r.o⟩
     case measure=>exact A5
   .obtain rfl:i=E.length:=U;have dl:decide ((E.length:Int)<(E.length:Int))=false:=AH;have ZK:Hid (IV m E=false):=by have:=o.o;rwa [F6] at this
    obtain⟨D,F⟩:=AC.o.acc.blk.y1;obtain⟨I,J,L,M,N,P⟩:=AC.o.Cg.DY;go_upto_region 8 with fail;go_cut [42] (λQ R=>Q=.bool ((k !=1)&&FM k ww n E)/\wr=R);case first=>
     by_cases AL:k=1
     .subst AL;go_wp2_with fail;go_meet;exact N1
     .have AM:(k !=1)=true:=E8.2 AL;go_wp2_with fail;go_call ABW _ _ _ E k ww n AC.o.acc U as en w' ⟨rfl,rfl⟩;go_wp2_with fail;go_meet;exact⟨by rw[AM];rfl,rfl⟩
    case rest=>
     obtain⟨rfl,rfl⟩:=hcut;cases H:((k !=1)&&FM k ww n E) with
     | true=>
      have hN:=ku (e:=⟨m,k,ww,n,a⟩) (E:=E) (by simp at H;exact H.2) (by simp at H;exact H.1);go_wp2_with fail;go_ret;exact V0 hN AD AC.o.AJ
     | false=>
      have KA:Hid (FM k ww n E=true->k=1):=by
       intro AZ;rw[AZ] at H;simpa using H
      go_upto_region 10 with fail;go_cut [6] (λQ R=>Q=.int .i64 (D7 E+a)/\Ms w R ab (.slice S E.length T) E w ⟨m,k,ww,n,a⟩);case first=>
       refine DB [1] [0,2,3,1,4,5] wr AF AF rfl AD AF BK ?_;refine Hm ?_;replace AC:=O Di;have G:wr.heap.size=wr.drew.heap.size:=rfl;rw[G];generalize wr.drew=W at *;obtain⟨D,F⟩:=AC.o.acc.blk.y1;obtain⟨I,J,L,M,N,P⟩:=AC.o.Cg.DY;iterate 3 refine DD ?_
       refine HK ?_;intro K hK;go_at_call 129;go_call j8 _ _ _ E AC.o.acc U V.o as en w' ⟨rfl,rfl⟩;refine JG ?_;iterate 2 refine DD ?_
       refine Dl ?_;go_wp2_with fail;go_meet;exact⟨rfl,AC.o⟩
      case rest=>
       obtain⟨rfl,A⟩:=hcut;replace AC:=O A;obtain⟨D,F⟩:=AC.o.acc.blk.y1;obtain⟨I,J,L,M,N,P⟩:=AC.o.Cg.DY;go_upto_if 50 with fail;go_cut [6] (λQ R=>Q=.int .i64 (D7 E+Er ⟨m,k,ww,n,a⟩)/\Ms w R ab (.slice S E.length T) E w ⟨m,k,ww,n,a⟩);case first=>
        by_cases Z:k=3
        .subst Z;have Tw:Hid (Er ⟨m,3,ww,n,a⟩ = -a):=by simp[Hid,Er]
         go_wp2_with fail;refine DB [1] [0,2,3,1,4,5] wc AF AF rfl AD AF BK ?_;refine Hm ?_;replace AC:=O Di;have G:wc.heap.size=wc.drew.heap.size:=rfl;rw[G];generalize wc.drew=W at *;obtain⟨D,F⟩:=AC.o.acc.blk.y1;obtain⟨I,J,L,M,N,P⟩:=AC.o.Cg.DY;iterate 3 refine DD ?_
         refine HK ?_;intro K hK;go_at_call 129;go_call j8 _ _ _ E AC.o.acc U V.o as en w' ⟨rfl,rfl⟩;refine JG ?_;iterate 2 refine DD ?_
         refine Dl ?_;go_wp2_with fail;go_meet;exact⟨by rw[Tw.o];rfl,AC.o⟩
        .have Tw:Hid (Er ⟨m,k,ww,n,a⟩=a):=by simp[Hid,Er,Z]
         have AM:(k==3)=false:=Aw.2 Z;exact eN
       case rest=>
        obtain⟨rfl,A⟩:=hcut;replace AC:=O A;have g:=O vI;have AS:=O vH;generalize D7 E+Er ⟨m,k,ww,n,a⟩=C at *;have B:C < -1000000000000\/1000000000000<C\/(-1000000000000<=C/\C<=1000000000000):=U;rcases B with B|B|B
        .have t:decide (C < -1000000000000)=true:=CA B;have hN:=g.o (.inl B);exact pq
        .have t:=A4 C (-1000000000000);have AU:decide ((1000000000000:Int)<C)=true:=CA B;have hN:=g.o (.inr B);exact pq
        .have t:=A4 C (-1000000000000);have AU:=A4 1000000000000 C;have AR:=O (AS.o B.1 B.2);go_wp2_with fail;refine Z7 (.q 0 (.q 1 (.q 2 (.q 3 (.q 4 (.q 6 (.f 5 7 (.l 7 (.l 8 .nil)) (.l 5 (.l 8 .nil))))))))) (wc.heap.size) [9,10,11] (Fr 9 3) AF AF AF AD AF AF AF BK ?_;refine fK ?_;replace AC:=O Di;have G:wc.heap.size=wc.drew.heap.size:=rfl;rw[G];generalize wc.drew=W at *;obtain⟨D,F⟩:=AC.o.acc.blk.y1;obtain⟨I,J,L,M,N,P⟩:=AC.o.Cg.DY;obtain⟨us,AP,d⟩:=AC.o.acc.row;iterate 6 refine Yj ?_
         refine bM 89 167 (.agg #[(),(),(),(),()]) 5 40 underlying89 tK rfl AD AD AD (.tmp 66) (.tmp 68) 67 69 70 rfl rfl rfl rfl rfl rfl rfl rfl rfl AD AH AH (.slice S E.length T) E.length us.flatten rfl J8 (Hv d) (bY d) d.1 (ABC AP) #[m,k,ww,n,a] rfl C2 rfl J8 AK U ?_;intro At Ac Aq As AO v;obtain⟨Af,Ag,rfl⟩:=CG AO;refine WD ?_;refine Mt ?_;have X:=AC.o.acc.blk.below v AC.o.acc.blk.lt;have D:=X.cell 0;have Aj:=X.frozen 0;have F:=X.lt;simp only[CH,A8] at D;go_wp2_with fail;go_ret;exact AC.o.fin AY AR.o AP AO v
end
section
variable{w':AA}{u:List AB}{S:List Nat}
attribute [local irreducible] Cu
def K4(w:AA)(x:Kd)(u:List AB):Prop:=∃B A,u=[.int .i64 x.s,.int .i64 x.n,.int .i64 (Br x.b),.int .u32 (Ba x.b),B,A]/\w.ownsRow 0 5 1 B (BC x.b).length (A3 (BC x.b))/\w.ownsRow 0 5 1 A x.b.length (A3 x.b)
def K4.len{w:AA}{x:Kd}(A:K4 w x u):u.length=6:=by obtain⟨C,B,rfl,_⟩:=A;rfl
def K4.kept{w:AA}{x:Kd}(C:K4 w x u)(B:AP S w w')(A:∀g cs,AG w g 5 cs->g∉S):K4 w' x u:=by
 obtain⟨G,F,rfl,D,E⟩:=C;exact⟨G,F,rfl,Bl D B A,Bl E B A⟩
structure En(w:AA)(Ak:Nat)(K:List Kd)(v:AB):Prop where
 blk:AG w Ak 83 #[v]
 row:AS 0 w 175 6 (K4 w) K v
def En.kept{w:AA}{A:Nat}{K:List Kd}{v:AB}(C:En w A K v)(B:AP S w w')(D:A∉S)(E:∀g cs,AG w g 175 cs->g∉S)(F:∀g cs,AG w g 5 cs->g∉S):En w' A K v:=
 ⟨C.blk.kept B D,C.row.kept B E (λ_ _ G=>G.kept B F)⟩
def En.below{w:AA}{A:Nat}{K:List Kd}{v:AB}(h:En w A K v)(hb:Below w w w'):En w' A K v:=
 h.kept (S:=[]) CX N9 CE CE
def En.cells{w:AA}{I:Nat}{K:List Kd}{a:BH}{n c:Nat}(h:En w I K (.slice a n c))(i:Nat)(x:Kd)(M:K[i]? = some x):
 ∃g D E B C,a=some ⟨g,0,none⟩/\g<w.heap.size/\w.cell? ⟨g,i*6,none⟩=some (x.s:AB)/\w.cell? ⟨g,i*6+1,none⟩=some (x.n:AB)/\w.cell? ⟨g,i*6+2,none⟩=some (.int .i64 (Br x.b))/\w.cell? ⟨g,i*6+3,none⟩=some (.int .u32 (Ba x.b))/\
  w.cell? ⟨g,i*6+4,none⟩=some (.slice D (BC x.b).length E)/\w.cell? ⟨g,i*6+5,none⟩=some (.slice B x.b.length C)/\w.ownsRow 0 5 1 (.slice D (BC x.b).length E) (BC x.b).length (A3 (BC x.b))/\w.ownsRow 0 5 1 (.slice B x.b.length C) x.b.length (A3 x.b):=by
 obtain⟨g,O,u,F,P,J,_,L,A⟩:=h.row.at (λ_ _ N=>N.len) i x M;obtain⟨R,Q,rfl,G,H⟩:=L;obtain⟨D,E,rfl⟩:=CV G;obtain⟨B,C,rfl⟩:=CV H;injection F with F;exact⟨g,D,E,B,C,F,J,A 0 AD,A 1 AD,A 2 AD,A 3 AD,A 4 AD,A 5 AD,G,H⟩
def c_{s n:Int}{K:List Kd}{i:Nat}{x:Kd}(B:K[i]? = some x)(D:∀j x,j<i->K[j]? = some x->EL s n x=true)(E:EL s n x=false):Bo s n K=i/\B_ s n K=Gh s n x:=by
 have C:Bo s n K=i:=k_ (I3 (Cd.1 B).1) D (λF A=>by rw[B] at A;injection A with A;subst A;exact E);refine⟨C,?_⟩;unfold B_;rw[C,B]
def AHz{s n:Int}{K:List Kd}(B:∀j x,j<K.length->K[j]? = some x->EL s n x=true):Bo s n K=K.length/\B_ s n K=false:=by
 have A:Bo s n K=K.length:=k_ AK B (λD C=>by simp at C);refine⟨A,?_⟩;unfold B_;rw[A];simp
def ANG(K:List Kd)(s n:Int)(w:AA)(e:Ending)(w':AA):Prop:=e=.returned (.tuple #[.int .i64 (Bo s n K:Int),.bool (B_ s n K)])/\Below w w w'
def ay(w:AA)(F:Nat)(K:List Kd)(v:AB)(s n:Int)(h:En w F K v)(AE:K.length<=30000):
 AI 126 #[.pointer F,s,n] w (ANG K s n w):=by
 obtain⟨a,c,rfl,t⟩:=h.row.slice;have FB:=O h;have AC:=O (AN w w);go_in;go_wp2_with fail;go_loopw [8] (λy wr=>∃i:Nat,y=.int .i64 (i:Int)/\i<=K.length/\En wr F K (.slice a K.length c)/\Below w w wr/\Hid (∀j x,j<i->K[j]? = some x->EL s n x=true)) (λy _=>K.length-(intOf y).toNat)
 case atStart=>exact⟨0,rfl,Az _,FB.o,AC.o,λj x h=>by omega⟩
 case round=>
  obtain⟨i,rfl,AD,I,T,Ag⟩:=hrel;have FB:=O I;have AC:=O T;have M:=I.blk.cell 0;have o:=I.blk.lt;simp only[CH,A8] at M;by_cases X:i<K.length
  .have dl:=Ar i K.length;obtain⟨x,L⟩:=BQ K i X;obtain⟨r,D,E,k,m,rfl,z,Y,Z,d,e,f,AF,_,_⟩:=FB.o.cells i x L;have Bj:=O L;obtain⟨A,B,C⟩:=x;simp only at Y Z d e f;go_upto_region 5 with fail;have J:=(AN wr wr).alloc AK (.cells #[A,B,.int .i64 (Br C),.int .u32 (Ba C),.slice D (BC C).length E] 108);have V:=AG.new wr 108 #[A,B,.int .i64 (Br C),.int .u32 (Ba C),.slice D (BC C).length E];replace FB:=O (FB.o.below J);replace AC:=O (AW AC.o J);generalize wr.alloc (.cells #[A,B,.int .i64 (Br C),.int .u32 (Ba C),.slice D (BC C).length E] 108)=g at *;generalize wr.heap.size=q at *;obtain⟨AJ,AL,AM⟩:=V.y2;rcases Int.lt_trichotomy A s with G|G|G
   .have N:(A==s)=false:=Aw.2 U;have P:=A4 s A;have An:Hid (∀j y,j<i+1->K[j]? = some y->EL s n y=true):=λj y W hy=>by
     exact r8
    exact rP
   .subst G;rcases Int.lt_trichotomy B n with H|H|H
    .have Q:(B==n)=false:=Aw.2 U;have R:=A4 n B;have An:Hid (∀j y,j<i+1->K[j]? = some y->EL A n y=true):=λj y W hy=>by
      exact r8
     exact rP
    .subst H;obtain⟨hp,hh⟩:=c_ Bj.o Ag.o (show EL A B ⟨A,B,C⟩=false by simp[EL]);have ZJ:=O hp;have ZM:Hid (B_ A B K=true):=by show _=_;rw[hh];simp[Gh]
     exact X0
    .have Q:(B==n)=false:=Aw.2 U;have R:=Ar n B;obtain⟨hp,hh⟩:=c_ Bj.o Ag.o (show EL A n ⟨A,B,C⟩=false by simp[EL];omega);have ZJ:=O hp;have ZM:Hid (B_ A n K=false):=wJ;exact X0
   .have N:(A==s)=false:=Aw.2 U;have P:=Ar s A;obtain⟨hp,hh⟩:=c_ Bj.o Ag.o (show EL s n ⟨A,B,C⟩=false by simp[EL];omega);have ZJ:=O hp;have ZM:Hid (B_ s n K=false):=wJ;exact X0
  .obtain rfl:i=K.length:=U;have dl:decide ((K.length:Int)<(K.length:Int))=false:=AH;obtain⟨hp,hh⟩:=AHz Ag.o;have ZJ:=O hp;have ZM:=O hh;exact X0
end
def AL4(K:List Kd)(s:Int)(w:AA)(e:Ending)(C:AA):Prop:=∃A:Nat,e=.returned A/\A<=999/\(∀B:Nat,B<A->B_ s ((B:Int)+1) K=true)/\B_ s ((A:Int)+1) K=false/\Below w w C
def AHW{K:List Kd}(D:∀x∈K,F7 x){s n:Int}(A:B_ s n K=true):1<=n/\n<=999:=by
 obtain⟨x,_,_,_,E⟩:=IT A;obtain⟨_,_,_,B,C,_⟩:=WP D E;exact⟨B,C⟩
def AA'(w:AA)(D:Nat)(K:List Kd)(v:AB)(s:Int)(h:En w D K v)(N:∀x∈K,F7 x)(P:K.length<=30000):
 AI 130 #[.pointer D,s] w (AL4 K s w):=by
 have C:=O h;have B:=O (AN w w);have I:=O N;go_in;go_wp2_with fail;go_loopw [5] (λF wr=>∃p:Nat,F=.int .i64 (p:Int)/\p<=999/\En wr D K v/\Below w w wr/\Hid (∀A:Nat,A<p->B_ s ((A:Int)+1) K=true)) (λF _=>1000-(intOf F).toNat)
 case atStart=>exact⟨0,rfl,U,C.o,B.o,λA h=>by omega⟩
 case round=>
  obtain⟨p,rfl,Q,M,L,G⟩:=hrel;have C:=O M;have B:=O L;go_wp2_with fail;go_call ay _ D K v s _ C.o P as e w1 ⟨rfl,hb1⟩;replace C:=O (C.o.below hb1);replace B:=O (AW B.o hb1);generalize Bo s ((p:Int)+1) K=T at *;cases E:B_ s ((p:Int)+1) K with
  | false=>
   have H:=O E;go_wp2_with fail;go_ret;exact⟨p,rfl,Q,G.o,H.o,B.o⟩
  | true=>
   obtain⟨_,R⟩:=AHW I.o E;have J:Hid (∀A:Nat,A<p+1->B_ s ((A:Int)+1) K=true):=λA S=>by
    rcases Fg A p with h|h
    .exact G.o A h
    .obtain rfl:A=p:=U;exact E
   go_wp2_with fail;go_roundw
   case rel=>exact⟨p+1,A7,U,C.o,B.o,J.o⟩
   case measure=>exact A5
def AAn(B:Nat)(v:AB)(l:AE)(w:AA)(h:Af B w v l)(F:5<=l.length)(I:l.length<=1000):
 AI 131 #[v] w (BX (.int .u32 (EX l)) w):=by
 obtain⟨a,c,rfl,H,A⟩:=id h;obtain⟨b,o,rfl,G,_⟩:=A U;clear A;have C:Af B w (.slice (some ⟨b,o+(l.length-4),none⟩) (l.length-(l.length-4)) (c-(l.length-4))) (l.drop (l.length-4)):=by
  have:=h.sub (n:=l.length-4) (k:=4) U;rw[HB AM] at this;rw[show l.length-(l.length-4)=4 by omega];exact this
 have D:=O C;obtain⟨K,L⟩:=XU l U;have E:=A4 l.length 4;have J:((l.length:Int)-4).toNat=l.length-4:=U;clear h C;go_in;go_wp2_with fail;refine(Ev B _ _ _ D.o AM).mono ?_;rintro e w' ⟨rfl,rfl⟩;rw[show AQ (l.drop (l.length-4))=EX l from rfl];go_wp2_with fail;go_ret;exact⟨AH,rfl⟩
structure ON(w X:AA)(Ak:Nat)(K:List Kd)(v o:AB)(D:List AE):Prop where
 fd:En X Ak K v
 out:JO w X D o
 AJ:Below w w X
def ON.o:=@ON.out
def ON.below{w A E:AA}{F:Nat}{K:List Kd}{v o:AB}{D:List AE}(B:ON w A F K v o D)(C:Below A A E):ON w E F K v o D:=
 ⟨B.fd.below C,B.o.below C,AW B.AJ C⟩
def ON.grow{w A D:AA}{G:Nat}{K:List Kd}{v o v' I:AB}{C:List AE}{b:AE}{us:List (List AB)}(h:ON w A G K v o C)
 (N:Rows (M6 w A) C us)(H:A.ownsRow w 108 5 o C.length us.flatten)(L:A.ownsRow w 5 1 I (BC b).length (A3 (BC b)))
 (M:D.ownsRow w 108 5 v' (C.length+1) (us.flatten++[.int .i64 (Au b),.int .i64 (Av b),.int .i64 (Br b),.int .u32 (Ba b),I]))(hg:A.grownBy D o.ownBlock):
 ON w D G K v v' (C++[b]):=by
 obtain⟨J,hk,hS⟩:=Gd H hg;have E:∀g F B,AG A g F B->F≠108->g∉J:=λg F B hg h1 hm=>by
  exact Pa
 exact⟨h.fd.kept hk (E _ _ _ h.fd.blk AD) (λg B hg=>E g _ B hg AD) (λg B hg=>E g _ B hg AD),JO.snoc N H L M hg,h.AJ.trans Mx⟩
def ABt(w:AA)(G:Nat)(K:List Kd)(v:AB)(s:Int)(h:En w G K v)(AJ:∀x∈K,F7 x)(AO:K.length<=30000):
 AI 74 #[.pointer G,s] w (xW K s w):=by
 obtain⟨Ad,Ae,rfl,BO⟩:=h.row.slice;have m:=O AJ;have AC:Hid (ON w w G K (.slice Ad K.length Ae) AL []):=⟨h,AS.mt,AN _ _⟩;clear h AJ;go_in;go_wp2_with fail;refine(AA' _ G K _ s AC.o.fd m.o AO).mono ?_;rintro u Bi ⟨p,rfl,BV,AU,y,hb1⟩;replace AC:=O Bg;have n:=O AU;have An:=O y;clear hb1 AU y;go_wp2_with fail;go_loopw [5,6,8] (λo BA i wr=>∃(D:List AE) (E:Int),i=.int .i64 ((D.length:Int)+1)/\BA=.int .u32 E/\D.length<=p/\(0<=E/\E<4294967296)/\ON w wr G K (.slice Ad K.length Ae) o D/\Hid (Hb K s=D++G_ K s (1000-D.length) ((D.length:Int)+1) E)) (λ_ _ i _=>1001-(intOf i).toNat)
 case atStart=>exact⟨[],0,rfl,rfl,AH,U,AC.o,rfl⟩
 case round=>
  clear AC;obtain⟨D,E,rfl,rfl,BN,Ay,Z,HC⟩:=hrel;have AC:=O Z;obtain⟨TM,bi,rfl,BU⟩:=AS.slice Z.o;obtain⟨Bb,Bc⟩:=Ay;clear Z;by_cases e:D.length<p
  .have dl:=LC ((D.length:Int)+1) p;have AF:=n.o D.length e;obtain⟨x,g,Al,Ak,d⟩:=IT AF;obtain⟨f,AX,AQ,BR,BS,Az,A0⟩:=WP m.o d;have Aa:x.s=Au x.b:=Al.trans AX;have AR:x.n=Av x.b:=Ak.trans AQ;clear AX AQ Az A0 Al Ak AF;obtain⟨BP,BQ⟩:=dZ f;obtain⟨BY,BZ⟩:=oF f;obtain⟨s0,s1⟩:=XU x.b U;have BL:(BC x.b).length<=58:=by
    have:=List.length_take_le (x.b.length-15) (List.drop 11 x.b);show(List.take (x.b.length-15) (List.drop 11 x.b)).length<=58;omega
   have Ao:=O g;have gm:=O d;have BW:Bo s ((D.length:Int)+1) K<K.length:=(Cd.1 g).1;clear g d f;go_wp2_with fail;refine(ay _ G K _ s _ AC.o.fd AO).mono ?_;rintro u A ⟨rfl,hb2⟩;rw[n.o D.length e];replace AC:=O K1;clear hb2;generalize Bo s ((D.length:Int)+1) K=Ac at *;obtain⟨R,P,Q,BI,BJ,rfl,L,t,B,Ap,Aq,Ar,Y,Ag,Ah⟩:=AC.o.fd.cells Ac x Ao.o;rw[Aa] at t;rw[AR] at B;have I:=AC.o.fd.blk.cell 0;have X:=AC.o.fd.blk.lt;simp only[CH,A8] at I;have M:=O Ag;have N:=O Ah;clear Ag Ah Aa AR dl;go_upto_region 9 with fail;have BM:w.heap.size<=A.heap.size:=AC.o.AJ.size;have l:=AC;have hal:=(AN A A).alloc AK (.cells #[.int .i64 (Au x.b),.int .i64 (Av x.b),.int .i64 (Br x.b),.int .u32 (Ba x.b),.slice P (BC x.b).length Q] 108);have C:=AG.new A 108 #[.int .i64 (Au x.b),.int .i64 (Av x.b),.int .i64 (Br x.b),.int .u32 (Ba x.b),.slice P (BC x.b).length Q];replace AC:=O Hn;replace M:=O (Bl M.o (S:=[]) ft CE);replace N:=O (Bl N.o (S:=[]) ft CE);have Y:=(Th (a:=⟨R,Ac*6+5,none⟩) (hal.block R L)).trans Y;clear t B Ap Aq Ar I X;have I:=AC.o.fd.blk.cell 0;have X:=AC.o.fd.blk.lt;simp only[CH,A8] at I;have k:=O hal;have Aw:R<(A.alloc (.cells #[.int .i64 (Au x.b),.int .i64 (Av x.b),.int .i64 (Br x.b),.int .u32 (Ba x.b),.slice P (BC x.b).length Q] 108)).heap.size:=Co L hal.size;generalize A.alloc (.cells #[.int .i64 (Au x.b),.int .i64 (Av x.b),.int .i64 (Br x.b),.int .u32 (Ba x.b),.slice P (BC x.b).length Q] 108)=r at *;obtain⟨J,S⟩:∃A2,A2=A.heap.size:=⟨_,rfl⟩;have Am:=O S;rw[<-S] at C;rw[<-S];clear S hal L;have A4:=C.g3;have A6:=C.g4;have A7:=C.frozen 4;have A9:=C.lt;by_cases PG:Ba x.b=E
   .have FB:Hid (Hb K s=D++[x.b]++G_ K s (1000-(D.length+1)) ((D.length:Int)+1+1) (EX x.b)):=by
     exact rH
    subst PG;clear HC;go_wp2_with fail;refine(AAn _ _ x.b _ (Af.FI N.o) U U).mono ?_;rintro u Bf ⟨rfl,rfl⟩;have A1:w.heap.size<=r.heap.size:=AC.o.AJ.size;go_upto_region 12 with (at_builtin;go_loud (refine JU AZ _ _ 27 5 AZ underlying27 (.int .u8 0) 1 1 AD AD HH rfl r _ 0 [] _ rfl ⟨rfl,.inl ⟨rfl,rfl⟩⟩ _ (BC x.b).length (A3 (BC x.b)) LA (KV _) rfl (Hv M.o) U AK ?_);intro Be W T hb1 At;rw[DP,Dg] at T;obtain⟨F,B,rfl⟩:=CV T;have H:=C.below hb1 C.lt;clear A4 A6 A7 A9 I X;have V:=H.cell 4;have BG:=H.frozen 4;have j:=H.lt;simp only[CH,A8,Bt] at V)
    have AY:Below A A (W.setCell ⟨J,4,none⟩ (.slice F (BC x.b).length B)):=(AW k.o hb1).setCell (by show A.heap.size<=J;rw[Am.o];exact Bh _) _;have c:=H.put 4 (.slice F (BC x.b).length B);simp only[RE,PO,PN] at c;have AV:(W.setCell ⟨J,4,none⟩ (.slice F (BC x.b).length B)).ownsRow w 5 1 (.slice F (BC x.b).length B) (BC x.b).length (A3 (BC x.b)):=
     Bl (Gc T A1) (S:=[J]) Us (λR BK L AM=>by
      simp only[Aj,A',A_] at AM;subst AM;exact absurd (H.same L) AD)
    clear M N AC Y Aw;have q:=O AV;have AC:=O (l.o.below AY);clear AY AV l k T At hb1;generalize W.setCell ⟨J,4,none⟩ (.slice F (BC x.b).length B)=BH at *;clear V BG j H C;obtain⟨BB,BD,BE,BF,V,j⟩:=c.DY;obtain⟨Ai,Ab,hown⟩:=AC.o.out;have BX:=AC.o.AJ.size;go_wp2_with (at_builtin;go_loud (refine ET AZ _ _ 170 108 AZ underlying170 (.agg #[(),(),(),.int .u32 0,AL]) 5 56 U U tL rfl w _ D.length Ai.flatten _ [.int .i64 (Au x.b),.int .i64 (Av x.b),.int .i64 (Br x.b),.int .u32 (Ba x.b),.slice F (BC x.b).length B] rfl C2 rfl HP _ AZ AH U U ?_);intro Bd Bj AT As z)
    replace AC:=O (AC.o.grow Ab hown q.o AT z);clear Ab hown AT z As Ai BB BD BE BF V j c q;exact rp
   .have BT:(Ba x.b !=E)=true:=E8.2 PG;have FB:Hid (Hb K s=D):=by
     exact pw
    clear PG;exact eR
  .have Ax:D.length=p:=U;have dl:=KI ((D.length:Int)+1) p;have FB:Hid (Hb K s=D):=by
    show _=_;rw[HC.o,Ax,Nu (Qm An.o),El]
   clear e;exact eR
def ABM(w:AA)(A:Nat)(K:List Kd)(v:AB)(s:Int)(h:En w A K v)(hk:∀x∈K,F7 x)(B:K.length<=30000):
 AI 32 #[.pointer A,s] w (Bz (.int .i64 (Gg K s:Int)) w):=by
 have HD:=O (ABt w A K v s h hk B);exact sX
section
variable{Y w':AA}{B j:Nat}{us:List (List AB)}
attribute [local irreducible] Cu
def AGV(x y:AE):(Op.bytesLess x y||x==y)=decide (Lib.compareBytes x y<=0):=by
 rw[o7];by_cases C:x=y
 .subst C;simp[AJM]
 .have E:Lib.compareBytes x y≠0:=λA=>C (oX x y A);have A:(x==y)=false:=Aw.2 C;rw[A,Np];exact decide_eq_decide.2 ⟨λD=>by omega,λD=>by omega⟩
def AK0(w:AA):(Instr.alloc 175 true (.tuple #[])).run prog w=.ok (ptrTo w) (w.alloc (.cells #[(),(),(),.int .u32 0,AL,AL] 175)):=by
 go_simp;rfl
def AK8(i d:Nat):∀x∈[(⟨i,d,175,#[(),(),(),.int .u32 0,AL,AL]⟩:Cb)],∀w,(Instr.alloc x.t true (.tuple #[])).run prog w=.ok (ptrTo w) (w.alloc (.cells x.z x.t)):=by
 intro x A w;simp only[Aj,A',A_] at A;subst A;exact AK0 w
def YA:(prog.info? 175).map (λi=>(i.zero,i.size,i.bytes))=some (some (.agg #[(),(),(),.int .u32 0,AL,AL]),6,80):=AF
def ALE{K:List Kd}{l:AE}(h:CR l=true)(hh:B_ (Au l) (Av l) K=false):Dr K l=some (K.take (Bo (Au l) (Av l) K)++⟨Au l,Av l,l⟩::K.drop (Bo (Au l) (Av l) K)):=wv
def ALC{K:List Kd}{l:AE}(h:CR l=true){x:Kd}(hx:EK (Au l) (Av l) K=some x.b)(hc:¬Lib.compareBytes x.b l<=0):Dr K l=some (K.take (Bo (Au l) (Av l) K)++⟨Au l,Av l,l⟩::K.drop (Bo (Au l) (Av l) K+1)):=xM
def P'(w:AA)(A:Nat)(K:List Kd)(l:AE)(e:Ending)(w':AA):Prop:=
 match Dr K l with
 | some D=>e=.returned ()/\∃E,En w' A D E/\AP [A] w w'
 | none=>(∃C,C≠0/\e=.returned (.int .i64 C))/\Below w w w'
def kh{w:AA}{A:Nat}{K:List Kd}{l:AE}{n:Int}(C:Dr K l=none)(E:n≠0)(D:Below w w w'):P' w A K l (.returned n) w':=by
 unfold P';rw[C];exact⟨⟨n,E,rfl⟩,D⟩
def ACN{w:AA}{A:Nat}{K C:List Kd}{v':AB}{l:AE}(D:Dr K l=some C)(F:En w' A C v')(E:AP [A] w w'):P' w A K l (.returned ()) w':=by
 unfold P';rw[D];exact⟨rfl,v',F,E⟩
structure Rs(w X:AA)(Ak:Nat)(K:List Kd)(v:AB)(AIo:Nat)(l:AE)(Sb:AB):Prop where
 fd:En X Ak K v
 Cg:AG X AIo 108 #[.int .i64 (Au l),.int .i64 (Av l),.int .i64 (Br l),.int .u32 (Ba l),Sb]
 Nw:X.ownsRow w 5 1 Sb (BC l).length (A3 (BC l))
 AJ:Below w w X
def Rs.below{w A:AA}{D:Nat}{K:List Kd}{v E:AB}{C:Nat}{l:AE}(h:Rs w A D K v C l E)(hb:Below A A Y):Rs w Y D K v C l E:=
 ⟨h.fd.below hb,h.Cg.below hb h.Cg.lt,Bl h.Nw (S:=[]) CX CE,AW h.AJ hb⟩
structure Rr(w X:AA)(Ak:Nat)(K:List Kd)(v:AB)(g:Nat)(l:AE)(Sb D5:AB):Prop where
 fd:En X Ak K v
 Cg:AG X g 175 #[.int .i64 (Au l),.int .i64 (Av l),.int .i64 (Br l),.int .u32 (Ba l),Sb,D5]
 Nw:X.ownsRow w 5 1 Sb (BC l).length (A3 (BC l))
 Kq:X.ownsRow w 5 1 D5 l.length (A3 l)
 AJ:Below w w X
def Rr.below{w A:AA}{C:Nat}{K:List Kd}{v E D:AB}{g:Nat}{l:AE}(h:Rr w A C K v g l E D)(hb:Below A A Y):Rr w Y C K v g l E D:=
 ⟨h.fd.below hb,h.Cg.below hb h.Cg.lt,Bl h.Nw (S:=[]) CX CE,Bl h.Kq (S:=[]) CX CE,AW h.AJ hb⟩
def zj{w:AA}{v:AB}{l:AE}(A:Af B w v l)(C:0<l.length):FV w v l.length (A3 l):=by
 obtain⟨E,c,rfl,G,D⟩:=id A;obtain⟨F,o,rfl,_⟩:=D C;exact aY A
def Rs.box{w D:AA}{I:Nat}{K:List Kd}{v:AB}{N:Nat}{l:AE}{C A:AB}{g:Nat}{S T U V W X:AB}(h:Rs w D I K v N l C)(J:Below D D Y)(Z:D.heap.size<=g)
 (M:AG Y g 175 #[S,T,U,V,W,X])(Q:Y.ownsRow w 5 1 A l.length (A3 l)):
 Rr w ((((((Y.setCell ⟨g,0,none⟩ (.int .i64 (Au l))).setCell ⟨g,1,none⟩ (.int .i64 (Av l))).setCell ⟨g,2,none⟩ (.int .i64 (Br l))).setCell ⟨g,3,none⟩ (.int .u32 (Ba l))).setCell ⟨g,4,none⟩ C).setCell ⟨g,5,none⟩ A) I K v g l C A:=by
 have L:AP [g] Y ((((((Y.setCell ⟨g,0,none⟩ (.int .i64 (Au l))).setCell ⟨g,1,none⟩ (.int .i64 (Av l))).setCell ⟨g,2,none⟩ (.int .i64 (Br l))).setCell ⟨g,3,none⟩ (.int .u32 (Ba l))).setCell ⟨g,4,none⟩ C).setCell ⟨g,5,none⟩ A):=
  ((((((AP.refl _ _).setCell AH _).setCell AH _).setCell AH _).setCell AH _).setCell AH _).setCell AH _
 have P:=J.trans ((L.below J.size (λa E=>by simp at E;omega)));have F:=h.below P;have O:∀G H,AG Y G 5 H->G∉[g]:=λG H R E=>by
  simp only[Aj,A',A_] at E;subst E;exact absurd (M.same R) AD
 refine⟨F.fd,?_,F.Nw,Bl Q L O,F.AJ⟩;have:=(((((M.put 0 (.int .i64 (Au l))).put 1 (.int .i64 (Av l))).put 2 (.int .i64 (Br l))).put 3 (.int .u32 (Ba l))).put 4 C).put 5 A;exact E_
def V1{w:AA}{E:List Kd}(C:Rows (K4 w) E us):∀u∈us.flatten,u.oneCell'=true:=by
 induction C with
 | nil=>simp
 | cons C _ G=>
  intro u A;rw[Lb] at A;rcases E1.1 A with A|A
  .obtain⟨M,L,rfl,D,F⟩:=C;obtain⟨H,J,rfl⟩:=CV D;obtain⟨I,K,rfl⟩:=CV F;simp only[Aj,A',A_] at A;rcases A with rfl|rfl|rfl|rfl|rfl|rfl<;>rfl
  .exact G u A
def lW{w:AA}{t k n c:Nat}{a:BH}{D:List AB}(h:w.ownsRow B t k (.slice a n c) n D)(M:j<=n):
 FV w (.slice (if c=j then a else Option.map (λx=>x.add (j*k)) a) (n-j) (c-j)) (n-j) (D.drop (j*k)):=by
 have F:=Hv h;have J:=h.1;rcases h.2 with ⟨A,E⟩|⟨I,H,cur,A,_,L,K,_⟩
 .injection A with e1 e2 e3;subst e1 e3;obtain rfl:j=0:=U;rw[E];exact .inl ⟨AH,rfl⟩
 .injection A with e1 e2 e3;subst e1 e3;by_cases C:c=j
  .obtain rfl:j=n:=U;rw[Ab C,Nat.sub_self,Mg U];exact .inr ⟨_,_,rfl,λ_ _ G=>by simp at G⟩
  .rw[AU C];have:=AEM (k:=k) F j (c-j);simpa[Mo] using this
def Rr.fin{w D:AA}{A:Nat}{K:List Kd}{v H G v':AB}{g i:Nat}{l:AE}(h:Rr w D A K v g l H G)(Z:A<w.heap.size)(a:i<=K.length)(b:j<=K.length)
 (V:Dr K l=some (K.take i++⟨Au l,Av l,l⟩::K.drop j))(T:Rows (K4 D) K us)
 (X:Y.ownsRow D 175 6 v' (i+1+(K.length-j)) ((us.flatten.take (i*6)++[.int .i64 (Au l),.int .i64 (Av l),.int .i64 (Br l),.int .u32 (Ba l),H,G])++us.flatten.drop (j*6)))
 (J:Below D D Y):P' w A K l (.returned ()) (Y.setCell ⟨A,0,none⟩ v'):=by
 have R:=h.fd.blk.below J h.fd.blk.lt;have M:AP [A] Y (Y.setCell ⟨A,0,none⟩ v'):=(AP.refl _ _).setCell AH _;have L:AP [A] D (Y.setCell ⟨A,0,none⟩ v'):=(AP.of_below J).trans M;have I:∀C E,AG D C 5 E->C∉[A]:=λC E N F=>by
  simp only[Aj,A',A_] at F;subst F;exact absurd (h.fd.blk.same N) AD
 have U:∀C E,AG Y C 175 E->C∉[A]:=λC E N F=>by
  simp only[Aj,A',A_] at F;subst F;exact absurd (R.same N) AD
 have S:=T.AGQ (k:=6) (λ_ _ C=>K4.len C);have Q:Rows (K4 (Y.setCell ⟨A,0,none⟩ v')) K us:=T.mono (λ_ _ C=>C.kept L I);refine ACN (v':=v') V ⟨?_,(us.take i++[[.int .i64 (Au l),.int .i64 (Av l),.int .i64 (Br l),.int .u32 (Ba l),H,G]])++us.drop j,?_,?_⟩ ((AP.of_below (AW h.AJ J)).trans M)
 .have:=R.put 0 v';exact E_
 .have W:K4 (Y.setCell ⟨A,0,none⟩ v') ⟨Au l,Av l,l⟩ [.int .i64 (Au l),.int .i64 (Av l),.int .i64 (Br l),.int .u32 (Ba l),H,G]:=by
   refine⟨H,G,rfl,?_,?_⟩
   .exact F_ (Bl h.Nw L I) J_
   .exact F_ (Bl h.Kq L I) J_
  have O:=((Q.take i).join (.cons W .nil)).join (Q.drop j);rw[E9] at O;exact O
 .have P:=F_ (B':=0) (Bl X M U) J_;rw[show(K.take i++⟨Au l,Av l,l⟩::K.drop j).length=i+1+(K.length-j) by simp;omega];rw[AHv S,AHx S] at P;rw[O9,O9,List.flatten_singleton];exact P
def ACO(w:AA)(b:Nat)(K:List Kd)(v As:AB)(l:AE)(h:En w b K v)(Ao:Af w w As l)(Bk:l.length<=30000)(BE:K.length<=30000):
 AI 71 #[.pointer b,As] w (P' w b K l):=by
 have Aq:=h.blk.lt;have At:=O h;have A2:=O Ao;obtain⟨va,Gz,rfl,_⟩:=Ao;obtain⟨t,G,rfl,Bg⟩:=h.row.slice;go_in;go_wp2_with fail;refine(kW _ l _ A2.o (by omega)).mono ?_;rintro e u ⟨Bq,rfl,AY,f⟩;obtain⟨L,M,rfl⟩:=CV AY;simp only[G8];cases hd:CR l with
 | false=>
  have e1:Jf l=11:=ZC;rw[e1];have AM:=O (eD (K:=K) hd);have Ak:=O f;generalize Ix l=Bx;generalize Iy l=By;generalize Je l=Bz;generalize Jd l=B0;generalize (IM l).length=B1;go_wp2_with fail;go_ret;exact kh AM.o AD (Ak.o.alloc Ak.o.size _)
 | true=>
  have e1:Jf l=0:=ZC;have e2:Ix l=Au l:=by simp[Ix,hd]
  have e3:Iy l=Av l:=by simp[Iy,hd]
  have A6:Je l=Br l:=by simp[Je,hd]
  have A7:Jd l=Ba l:=by simp[Jd,hd]
  have Am:IM l=BC l:=by simp[IM,hd]
  rw[Am] at AY;rw[e1,e2,e3,A6,A7,Am];obtain⟨Bi,Bj⟩:=dZ hd;have y:=O hd;have AC:Hid (Rs w (u.alloc (.cells #[.int .i64 (Au l),.int .i64 (Av l),.int .i64 (Br l),.int .u32 (Ba l),.slice L (BC l).length M] 108)) b K (.slice t K.length G) u l (.slice L (BC l).length M)):=
   ⟨At.o.below (f.alloc f.size _),AG.new _ _ _,AY.alloc _,f.alloc f.size _⟩
  go_wp2_with fail;generalize u.alloc (.cells #[.int .i64 (Au l),.int .i64 (Av l),.int .i64 (Br l),.int .u32 (Ba l),.slice L (BC l).length M] 108)=BV at *;generalize u.heap.size=Bd at *;go_call ay _ b K _ (Au l) (Av l) AC.o.fd BE as e w2 ⟨rfl,hb2⟩;replace AC:=O K1;cases An:B_ (Au l) (Av l) K with
  | false=>
   have AJ:=O (ALE y.o An);have R:=bF (Au l) (Av l) K;generalize Bo (Au l) (Av l) K=A at *;go_wp2_with fail;refine uP ?_;replace AC:=O Di;have F:w2.heap.size=w2.drew.heap.size:=rfl;rw[F];generalize w2.drew=J at *;obtain⟨H,P⟩:=AC.o.fd.blk.y1;obtain⟨Ad,Ae,Ag,Ah,Ai,Aj⟩:=AC.o.Cg.DY;iterate 15 refine DD ?_
   refine Dl ?_;go_wp2_with fail;refine ud ?_;replace AC:=O Di;have F:J.heap.size=J.drew.heap.size:=rfl;rw[F];generalize J.drew=A0 at *;obtain⟨H,P⟩:=AC.o.fd.blk.y1;obtain⟨Ad,Ae,Ag,Ah,Ai,Aj⟩:=AC.o.Cg.DY;refine HL ?_;intro W3 hW3 Z E;have x:=AC;refine uj ?_;intro BN Az ho i BD _;rw[DP,Dg] at ho;obtain⟨a,W,rfl⟩:=CV ho;have BI:=O vF;have Q:=AW hW3 i;refine E _ _ i ?_;refine Mt ?_;refine N7 ?_;intro AO XA BH Aa Ab AT;replace BI:=O uq;replace Q:=AW Q XA;obtain⟨D,rfl,hg,I⟩:=NS Aa Ab AT;have A_:=I.cell;have A':=I.frozen;have BA:=I.lt;simp only[sets,ptrTo];refine J5 ?_;intro Z E;go_simp;refine E _ _ _ AK (vE) ?_;refine Dl ?_;have C:=O (x.o.box Q hg I BI.o);generalize ((((((AO.setCell ⟨D,0,none⟩ (.int .i64 (Au l))).setCell ⟨D,1,none⟩ (.int .i64 (Av l))).setCell ⟨D,2,none⟩ (.int .i64 (Br l))).setCell ⟨D,3,none⟩ (.int .u32 (Ba l))).setCell ⟨D,4,none⟩ (.slice L (BC l).length M)).setCell ⟨D,5,none⟩ (.slice a l.length W))=HF at *;go_wp2_with fail;refine uk ?_;replace C:=O (C.o.below (AN _ _).drew);have F:HF.heap.size=HF.drew.heap.size:=rfl;rw[F];generalize HF.drew=AQ at *;obtain⟨H,P⟩:=C.o.fd.blk.y1;obtain⟨BO,BP,BQ,BR,BS,BT,BU⟩:=C.o.Cg.y6;obtain⟨us,U,hown⟩:=C.o.fd.row;iterate 14 refine Yj ?_
   refine bM 81 175 (.agg #[(),(),(),.int .u32 0,AL,AL]) 6 80 underlying81 YA rfl AD AD AD (.tmp 57) (.tmp 59) 58 60 61 rfl rfl rfl rfl rfl rfl rfl rfl rfl AD AH AH (.slice t A G) A (us.flatten.take (A*6)) rfl J8 (lO (k:=6) (Hv hown) R) (λAR m c e=>bY hown AR K.length G wO) wz (λV T=>V1 U V (Q7 T)) #[.int .i64 (Au l),.int .i64 (Av l),.int .i64 (Br l),.int .u32 (Ba l),.slice L (BC l).length M,.slice a l.length W] rfl C2 rfl J8 AK (by omega) ?_;intro Ac Al BJ BL AV hb2;refine Mt ?_;refine MN rfl ?_;intro Z E;refine OY (.tmp 61) (.tmp 67) 81 AZ AQ 175 (.agg #[(),(),(),.int .u32 0,AL,AL]) 6 80 underlying81 YA rfl AD AD Ac (A+1) _ rfl AV _ (K.length-A) (us.flatten.drop (A*6)) rfl (by have AX:=lW (j:=A) (Bl hown (S:=[]) R5 CE) R;exact AX) (by rw[EM,hown.1];omega) (λV T=>V1 U V (List.mem_of_mem_drop T)) (by omega) hb2.size ?_;intro BM A1 s g BB _;obtain⟨A4,A5,rfl⟩:=CG s;refine E _ _ g ?_;refine WD ?_;refine Mt ?_;have o:=hb2.trans g;generalize Value.slice (if G=A then t else Option.map (λX=>X.add (A*6)) t) (K.length-A) (G-A)=BG;have N:=C.o.fd.blk.below o C.o.fd.blk.lt;have H:=N.cell 0;have A9:=N.frozen 0;have P:=N.lt;simp only[CH,A8] at H;go_wp2_with fail;go_ret;exact C.o.fin Aq R R AJ.o U s o
  | true=>
   obtain⟨X,Ar,Bw,Bv,Ap⟩:=IT An;have AU:Bo (Au l) (Av l) K<K.length:=(Cd.1 Ar).1;have Aw:=O (pc y.o Ap).1;have Ax:=O (λr=>ALC y.o Ap r);have R:=I3 AU;have Ay:=O Ar;generalize Bo (Au l) (Av l) K=A at *;go_wp2_with fail;refine uP ?_;replace AC:=O Di;have F:w2.heap.size=w2.drew.heap.size:=rfl;rw[F];generalize w2.drew=J at *;obtain⟨d,Bc,Be,Bs,Bu,rfl,Bf,BW,BX,W,BY,BZ,Bb,Bm,BF⟩:=AC.o.fd.cells A X Ay.o;have Bn:=(Af.FI BF).jb;have Bp:=((A2.o.below AC.o.AJ).mono AC.o.AJ.size).jb;obtain⟨H,P⟩:=AC.o.fd.blk.y1;obtain⟨Ad,Ae,Ag,Ah,Ai,Aj⟩:=AC.o.Cg.DY;iterate 15 refine DD ?_
   refine Dl ?_;rw[AGV];by_cases r:Lib.compareBytes X.b l<=0
   .have AS:decide (Lib.compareBytes X.b l<=0)=true:=CA r;have AM:=O (Aw.o r);rw[AS];go_wp2_with fail;go_ret;exact kh AM.o AD AC.o.AJ
   .have AS:decide (Lib.compareBytes X.b l<=0)=false:=DI r;have AJ:=O (Ax.o (by omega));rw[AS];go_wp2_with fail;refine ud ?_;replace AC:=O Di;have F:J.heap.size=J.drew.heap.size:=rfl;rw[F];generalize J.drew=A0 at *;obtain⟨H,P⟩:=AC.o.fd.blk.y1;obtain⟨Ad,Ae,Ag,Ah,Ai,Aj⟩:=AC.o.Cg.DY;refine HL ?_;intro W3 hW3 Z E;have x:=AC;refine uj ?_;intro BN Az ho i BD _;rw[DP,Dg] at ho;obtain⟨a,W,rfl⟩:=CV ho;have BI:=O vF;have Q:=AW hW3 i;refine E _ _ i ?_;refine Mt ?_;refine N7 ?_;intro AO XA BH Aa Ab AT;replace BI:=O uq;replace Q:=AW Q XA;obtain⟨D,rfl,hg,I⟩:=NS Aa Ab AT;have A_:=I.cell;have A':=I.frozen;have BA:=I.lt;simp only[sets,ptrTo];refine J5 ?_;intro Z E;go_simp;refine E _ _ _ AK (vE) ?_;refine Dl ?_;have C:=O (x.o.box Q hg I BI.o);generalize ((((((AO.setCell ⟨D,0,none⟩ (.int .i64 (Au l))).setCell ⟨D,1,none⟩ (.int .i64 (Av l))).setCell ⟨D,2,none⟩ (.int .i64 (Br l))).setCell ⟨D,3,none⟩ (.int .u32 (Ba l))).setCell ⟨D,4,none⟩ (.slice L (BC l).length M)).setCell ⟨D,5,none⟩ (.slice a l.length W))=HF at *;go_wp2_with fail;refine uk ?_;replace C:=O (C.o.below (AN _ _).drew);have F:HF.heap.size=HF.drew.heap.size:=rfl;rw[F];generalize HF.drew=AQ at *;obtain⟨H,P⟩:=C.o.fd.blk.y1;obtain⟨BO,BP,BQ,BR,BS,BT,BU⟩:=C.o.Cg.y6;obtain⟨us,U,hown⟩:=C.o.fd.row;iterate 14 refine Yj ?_
    refine bM 81 175 (.agg #[(),(),(),.int .u32 0,AL,AL]) 6 80 underlying81 YA rfl AD AD AD (.tmp 57) (.tmp 59) 58 60 61 rfl rfl rfl rfl rfl rfl rfl rfl rfl AD AH AH (.slice d A G) A (us.flatten.take (A*6)) rfl J8 (lO (k:=6) (Hv hown) R) (λAR m c e=>bY hown AR K.length G wO) wz (λV T=>V1 U V (Q7 T)) #[.int .i64 (Au l),.int .i64 (Av l),.int .i64 (Br l),.int .u32 (Ba l),.slice L (BC l).length M,.slice a l.length W] rfl C2 rfl J8 AK (by omega) ?_;intro Ac Al BJ BL AV hb2;refine Mt ?_;refine MN rfl ?_;intro Z E;refine OY (.tmp 61) (.tmp 67) 81 AZ AQ 175 (.agg #[(),(),(),.int .u32 0,AL,AL]) 6 80 underlying81 YA rfl AD AD Ac (A+1) _ rfl AV _ (K.length-(A+1)) (us.flatten.drop ((A+1)*6)) rfl (by have AX:=lW (j:=(A+1)) (Bl hown (S:=[]) R5 CE) AU;exact(by simpa only[Td,Mo,DP] using AX:FV Al (Value.slice (if G=A+1 then some (⟨d,0,none⟩:Addr) else some ⟨d,(A+1)*6,none⟩) (K.length-(A+1)) (G-(A+1))) (K.length-(A+1)) (us.flatten.drop ((A+1)*6)))) (by rw[EM,hown.1];omega) (λV T=>V1 U V (List.mem_of_mem_drop T)) (by omega) hb2.size ?_;intro BM A1 s g BB _;obtain⟨A4,A5,rfl⟩:=CG s;refine E _ _ g ?_;refine WD ?_;refine Mt ?_;have o:=hb2.trans g;generalize Value.slice (if G=A+1 then some (⟨d,0,none⟩:Addr) else some ⟨d,(A+1)*6,none⟩) (K.length-(A+1)) (G-(A+1))=BG;have N:=C.o.fd.blk.below o C.o.fd.blk.lt;have H:=N.cell 0;have A9:=N.frozen 0;have P:=N.lt;simp only[CH,A8] at H;go_wp2_with fail;go_ret;exact C.o.fin Aq R AU AJ.o U s o
end
section
variable{g n c B t k:Nat}{p:Int × Int}{L':List (Int × Int)}{xs:List AB}
attribute [local irreducible] Cu
def Rows.last{α:Type}{E:α->List AB->Prop}{x:α}: ∀{D:List α} {us:List (List AB)},Rows E (D++[x]) us->∃C u,us=C++[u]/\Rows E D C/\E x u
 | [],us,A=>by
  cases A with
  | cons A t=>cases t;exact⟨[],_,rfl,.nil,A⟩
 | y::D,us,A=>by
  cases A with
  | cons A t=>
   obtain⟨C,u,rfl,F,G⟩:=Rows.last t;exact⟨_::C,u,rfl,.cons A F,G⟩
def AEV{w:AA}{j:Nat}(C:w.ownsRow B t k (.slice g n c) n xs)(u:AB):(w.setCell ⟨g,j,none⟩ u).ownsRow B t k (.slice g n c) n (xs.set j u):=by
 obtain⟨D,E⟩:=C;refine⟨by rw[List.length_set];exact D,.inr ?_⟩;rcases E with ⟨A,_⟩|⟨M,L,cur,A,F,I,G,J,H,K⟩
 .cases A
 .injection A with e1 e2 e3;injection e1 with e1;injection e1 with e1;subst e1 e3;refine⟨g,c,cur.setIfInBounds j u,rfl,F,AG.put I j u,G,J,by simpa using H,?_⟩;rw[<-K,Array.toList_setIfInBounds,List.take_set]
def Qd{w:AA}{o m:Nat}(C:w.ownsRow B t k (.slice (some ⟨g,o,none⟩) n c) m xs):∃cur,AG w g t cur/\B<=g:=by
 rcases C.2 with ⟨A,_⟩|⟨G,F,cur,A,D,E,H,J,I,K⟩
 .cases A
 .injection A with e1 e2 e3;injection e1 with e1;injection e1 with e1;subst e1;exact⟨cur,E,D⟩
def Hk(p:Int × Int)(u:List AB):Prop:=u=[.int .i64 p.1,.int .i64 p.2]
def Hk.len{u:List AB}(h:Hk p u):u.length=2:=M5
def N4(B:Nat)(w:AA)(A:List (Int × Int))(v:AB):Prop:=AS B w 97 2 Hk A v
def N4.last{w:AA}{A:List (Int × Int)}(h:N4 B w A (.slice g n c))(J:A=L'++[p])(b:Int):
 N4 B (w.setCell ⟨g,(A.length-1)*2+1,none⟩ b) (L'++[(p.1,b)]) (.slice g n c):=by
 obtain⟨Q,I,D⟩:=h;subst J;obtain⟨C,P,rfl,E,F⟩:=I.last;unfold Hk at F;subst F;obtain⟨N,O,L⟩:=CG D;injection L with e1 e2 e3;subst e2;have K:=E.flat (m:=2) (λ_ _ M=>Hk.len M);refine⟨C++[[.int .i64 p.1,.int .i64 b]],E.snoc (show Hk (p.1,b) [.int .i64 p.1,.int .i64 b] from rfl),?_⟩;have G:=AEV (j:=L'.length*2+1) D b;have H:((C++[[Value.int .i64 p.1,Value.int .i64 p.2]]).flatten.set (L'.length*2+1) b)=(C++[[Value.int .i64 p.1,Value.int .i64 b]]).flatten:=by
  rw[O9,O9,List.flatten_singleton,List.flatten_singleton,List.set_append_right _ _ U,K,Nat.add_sub_cancel_left];rfl
 rw[H] at G;simpa using G
def WG{K:List Kd}{i:Nat}{x:Kd}(C:K[i]? = some x)(s:Int):C4 (K.take (i+1)) s=if x.s=s then C4 (K.take i) s++[x.n] else C4 (K.take i) s:=by
 have A:K.take (i+1)=K.take i++[x]:=by rw[Mk,C];rfl
 unfold C4;rw[A,List.filter_append,Li];by_cases A:x.s=s<;>simp[A]
def QU(A:Ay)(n:Int):DF (A++[n])=EU (DF A) n:=by simp[DF]
def Vx{n:Int}(A:p.2=n):EU (L'++[p]) n=L'++[(p.1,n+1)]:=by simp[EU,A]
def Vy{A:List (Int × Int)}{n:Int}(h:∀L' p,A=L'++[p]->p.2≠n):EU A n=A++[(n,n+1)]:=by
 rcases Tc A with rfl|⟨L',p,rfl⟩
 .rfl
 .have:=h L' p AH;simp[EU,this]
structure Kz(w X:AA)(Ak:Nat)(K:List Kd)(v o:AB)(L:List (Int × Int)):Prop where
 fd:En X Ak K v
 out:N4 w X L o
 AJ:Below w w X
def Kz.o:=@Kz.out
def Kz.below{w A D:AA}{E:Nat}{K:List Kd}{v o:AB}{C:List (Int × Int)}(h:Kz w A E K v o C)(hb:Below A A D):Kz w D E K v o C:=
 ⟨h.fd.below hb,AS.kept h.o (S:=[]) CX CE BW,AW h.AJ hb⟩
def Kz.grow{w D E:AA}{G:Nat}{K:List Kd}{v o v':AB}{C:List (Int × Int)}{us:List (List AB)}{a b:Int}(h:Kz w D G K v o C)
 (L:Rows Hk C us)(I:D.ownsRow w 97 2 o C.length us.flatten)
 (J:E.ownsRow w 97 2 v' (C.length+1) (us.flatten++[.int .i64 a,.int .i64 b]))(hg:D.grownBy E o.ownBlock):Kz w E G K v v' (C++[(a,b)]):=by
 obtain⟨H,hk,hS⟩:=Gd I hg;have F:∀g t A,AG D g t A->t≠97->g∉H:=λg t A hg h1 hm=>by
  exact Pa
 exact⟨h.fd.kept hk (F _ _ _ h.fd.blk AD) (λg A hg=>F g _ A hg AD) (λg A hg=>F g _ A hg AD),AS.snoc L rfl J,h.AJ.trans Mx⟩
def Kz.last{w C:AA}{H:Nat}{K:List Kd}{v:AB}{D:List (Int × Int)}(h:Kz w C H K v (.slice g n c) D)(M:D=L'++[p])(b:Int):
 Kz w (C.setCell ⟨g,(D.length-1)*2+1,none⟩ b) H K v (.slice g n c) (L'++[(p.1,b)]):=by
 obtain⟨R,_,P⟩:=id h.o;obtain⟨cur,N,L⟩:=Qd P;have O:AP [g] C (C.setCell ⟨g,(D.length-1)*2+1,none⟩ b):=(AP.refl _ _).setCell AH _;have E:∀G t A,AG C G t A->t≠97->G∉[g]:=λG t A Q J I=>by
  simp only[Aj,A',A_] at I;subst I;exact J (Q.same N)
 exact⟨h.fd.kept O (E _ _ _ h.fd.blk AD) (λg A F=>E g _ A F AD) (λg A F=>E g _ A F AD),h.o.last M b,h.AJ.setCell L _⟩
def uy(K:List Kd)(s:Int)(w:AA)(e:Ending)(C:AA):Prop:=∃A,e=.returned A/\N4 w C (DF (C4 K s)) A/\Below w w C
def ABI(w:AA)(J:Nat)(K:List Kd)(v:AB)(s:Int)(h:En w J K v)(j:∀x∈K,F7 x)(A9:K.length<=30000):
 AI 31 #[.pointer J,s] w (uy K s w):=by
 obtain⟨AJ,AM,rfl,A3⟩:=h.row.slice;have AR:=O j;have AC:Hid (Kz w w J K (.slice AJ K.length AM) AL []):=⟨h,AS.mt,AN _ _⟩;clear h j;go_in;go_wp2_with fail;go_loopw [5,6] (λo W wr=>∃(i:Nat) (L:List (Int × Int)),W=.int .i64 (i:Int)/\i<=K.length/\L.length<=i/\Kz w wr J K (.slice AJ K.length AM) o L/\Hid (L=DF (C4 (K.take i) s))) (λ_ W _=>K.length+1-(intOf W).toNat)
 case atStart=>exact⟨0,[],rfl,Az _,Bh _,AC.o,rfl⟩
 case round=>
  clear AC;obtain⟨i,L,rfl,A2,A6,V,E⟩:=hrel;have AC:=O V;obtain⟨Aq,As,rfl,A_⟩:=AS.slice V.o;clear V;have Y:=AC.o.fd.blk.cell 0;have AV:=AC.o.fd.blk.lt;simp only[CH,A8] at Y;by_cases r:i<K.length
  .obtain⟨x,M⟩:=BQ K i r;have dl:=Ar i K.length;obtain⟨AE,Al,u⟩:=AR.o x (Bu M);obtain⟨Ao,Ap,_,_⟩:=RS AE;rw[<-u] at Ao Ap;obtain⟨g,R,S,Ax,Ay,rfl,Ah,AW,AX,AY,Aa,Ac,Ad,At,Au⟩:=AC.o.fd.cells i x M;have H:=O M;clear Ad At Au M AE Al u;go_upto_region 6 with fail;have hal:=(AN wr wr).alloc AK (.cells #[x.s,x.n,.int .i64 (Br x.b),.int .u32 (Ba x.b),.slice R (BC x.b).length S] 108);have A:=AG.new wr 108 #[x.s,x.n,.int .i64 (Br x.b),.int .u32 (Ba x.b),.slice R (BC x.b).length S];replace AC:=O Hn;clear AW AX AY Aa Ac Y AV hal Ah;generalize wr.alloc (.cells #[x.s,x.n,.int .i64 (Br x.b),.int .u32 (Ba x.b),.slice R (BC x.b).length S] 108)=X at *;generalize wr.heap.size=A0 at *;obtain⟨AO,N,P⟩:=A.y2;by_cases D:x.s=s
   .have Aj:(x.s !=s)=false:=by simp[D]
    have Q:=O D;clear D;rcases Mf L.length with h0|h0
    .have An:Hid (L++[(x.n,x.n+1)]=DF (C4 (K.take (i+1)) s)):=by
      show _=_;rw[WG H.o,Ab Q.o,QU,<-E.o];exact qh
     have Ae:=A4 0 L.length;go_upto_region 8 with fail;clear AO N P;refine Yf ?_;replace A:=A.drew;replace AC:=O Di;have F:X.heap.size=X.drew.heap.size:=rfl;rw[F];clear F;generalize X.drew=AT at *;have N:=A.g1;have P:=A.lt;exact ti
    .skip
     go_upto_region 8 with fail;clear AO N P;refine Yf ?_;replace A:=A.drew;replace AC:=O Di;have F:X.heap.size=X.drew.heap.size:=rfl;rw[F];clear F;generalize X.drew=AT at *;have N:=A.g1;have P:=A.lt;obtain⟨L',p,T⟩:∃L' p,L=L'++[p]:=by
      rcases Tc L with rfl|⟨L',p,h⟩
      .simp at h0
      .exact⟨L',p,Fq⟩
     have Ae:=Ar 0 L.length;have BA:((L.length:Int)-1).toNat=L.length-1:=U;have m:L[L.length-1]? = some p:=by rw[T];simp
     obtain⟨BD,BB,BE,Af,_,A',_,Z,d⟩:=AS.at AC.o.out (λ_ _ q=>Hk.len q) _ p m;injection Af with e1 I e3;subst e1;unfold Hk at Z;subst Z;have AP:=d 1 AD;simp only[Bt,A8] at AP;obtain⟨us,Am,y⟩:=id AC.o.out;obtain⟨cur,f,Ag⟩:=Qd y;have BF:=f.frozen ((L.length-1)*2+1);have G:=O T;clear T m d y Am us f Ag;by_cases C:p.2=x.n
     .have Ak:(p.2==x.n)=true:=C7.2 C;have An:Hid (L'++[(p.1,x.n+1)]=DF (C4 (K.take (i+1)) s)):=by
       show _=_;rw[WG H.o,Ab Q.o,QU,<-E.o,G.o,Vx C]
      have Ai:Hid ((L'++[(p.1,x.n+1)]).length=L.length):=by show _=_;rw[G.o];simp
      have AQ:=O (AC.o.last G.o (x.n+1));rw[C] at AP;clear C;refine Ye ?_;go_wp2_with fail;go_roundw
      case rel=>exact⟨i+1,L'++[(p.1,x.n+1)],A7,U,by rw[Ai.o];omega,AQ.o,An.o⟩
      case measure=>exact A5
     .have Ak:(p.2==x.n)=false:=Aw.2 C;have An:Hid (L++[(x.n,x.n+1)]=DF (C4 (K.take (i+1)) s)):=by
       show _=_;rw[WG H.o,Ab Q.o,QU,<-E.o];exact(Vy (λAv q e=>by
        rw[G.o] at e;have:=List.append_inj' e rfl;obtain⟨_,I⟩:=this;injection I with I;rw[<-I];exact C)).symm
      exact ti
   .have Aj:(x.s !=s)=true:=E8.2 D;have An:Hid (L=DF (C4 (K.take (i+1)) s)):=by show _=_;rw[WG H.o,AU D];exact E.o
    clear D;go_wp2_with fail;go_roundw
    case rel=>exact⟨i+1,L,A7,U,U,AC.o,An.o⟩
    case measure=>exact A5
  .have dl:=A4 i K.length;have An:Hid (L=DF (C4 K s)):=by show _=_;rw[E.o,HB U]
   have A1:decide (i<K.length)=false:=DI r;go_wp2_with fail;go_ret;exact⟨.slice Aq L.length As,rfl,by rw[<-An.o];exact AC.o.out,AC.o.AJ⟩
end
section
variable{wr w':AA}{g:Nat}
attribute [local irreducible] Cu
def kG{P:Program}{A:Func}{p u x:Tmp}{ty:TypeId}(h:A.results=#[.tmp u,.cell p ty,.tmp x])(tmps:Array AB)(w:AA)(g:Nat)(t:TypeId)(cs:Array AB)(fr:Nat × Nat)(d:TypeDesc)(v1 v2:AB)
 (hp:tmps.getD p undef=.pointer g)(h1:tmps.getD u undef=v1)(h2:tmps.getD x undef=v2)(hg:w.heap[g]? = some (.cells cs t fr))
 (hu:P.underlying ty=some d)(hd:(match d with | .struct _ | .array _ _=>true|_=>false)=true)(hi:(P.info? ty).map (·.size)=some cs.size):
 (results A tmps).run P w=.ok (.tuple #[v1,.agg cs,v2]) w:=by
 exact fB
def mo:(prog.info? 167).map (·.size)=some 5:=AF
abbrev Vk(w:AA)(g:Nat)(u0 u1 u2 u3 u4:AB):AA:=((((w.setCell ⟨g,0,none⟩ u0).setCell ⟨g,1,none⟩ u1).setCell ⟨g,2,none⟩ u2).setCell ⟨g,3,none⟩ u3).setCell ⟨g,4,none⟩ u4
def AIL{t:TypeId}{A B C D E:AB}(h:AG wr g t #[A,B,C,D,E])(u0 u1 u2 u3 u4:AB):AG (Vk wr g u0 u1 u2 u3 u4) g t #[u0,u1,u2,u3,u4]:=by
 have:=((((h.put 0 u0).put 1 u1).put 2 u2).put 3 u3).put 4 u4;exact E_
def nl{B:Nat}{w:AA}(C:Below B w wr)(A:B<=g)(u0 u1 u2 u3 u4:AB):Below B w (Vk wr g u0 u1 u2 u3 u4):=
 ((((C.setCell (p:=⟨g,0,none⟩) A u0).setCell (p:=⟨g,1,none⟩) A u1).setCell (p:=⟨g,2,none⟩) A u2).setCell (p:=⟨g,3,none⟩) A u3).setCell (p:=⟨g,4,none⟩) A u4
def XJ(e:A6):AB:=.agg #[e.m,e.k,e.w,e.n,e.a]
def IZ(l:AE):Bool:=decide (l.length=13/\1<=Gb l/\Gb l<=99)
def VA(l:AE)(w:AA)(e:Ending)(w':AA):Prop:=
 (if IZ l then e=.returned (.tuple #[.int .i64 (Gb l:Int),XJ (I1 l),true]) else e=.returned (.tuple #[(),.agg #[(),(),(),(),()],false]))/\Below w w w'
def AIK{l:AE}{w:AA}(h:IZ l=false)(A:Below w w w'):VA l w (.returned (.tuple #[(),.agg #[(),(),(),(),()],false])) w':=by
 unfold VA;rw[h];exact⟨AH,A⟩
def AIJ{l:AE}{w:AA}{p:Int}{e:A6}(h:IZ l=true)(C:p=(Gb l:Int))(B:e=I1 l)(A:Below w w w'):VA l w (.returned (.tuple #[p,XJ e,true])) w':=by
 unfold VA;rw[h,C,B];exact⟨AH,A⟩
def ABl(w:AA)(n:AB)(l:AE)(h:Af w w n l):
 AI 72 #[n] w (VA l w):=by
 by_cases f:l.length=13
 .obtain⟨N,A,H,I,B,C,J,K,L,M,E,F,G,rfl⟩:∃N A H I B C J K L M E F G,l=[N,A,H,I,B,C,J,K,L,M,E,F,G]:=by
   match l,f with
   | [N,A,H,I,B,C,J,K,L,M,E,F,G],_=>exact⟨_,_,_,_,_,_,_,_,_,_,_,_,_,rfl⟩
  obtain⟨a,c,rfl,AJ,AM⟩:=id h;obtain⟨S,o,rfl,Q,T⟩:=AM AH;have i:=h.sub (n:=2) (k:=2) AH;have j:=h.sub (n:=6) (k:=2) AH;have m:=h.sub (n:=8) (k:=5) AH;simp only[Qz,Nh,Qq,List.take_zero] at i j m;have W:=T 1 A rfl;have X:=T 4 B rfl;have Y:=T 5 C rfl;have u:=O i;have x:=O j;have y:=O m;have AY:=E5 A;have AZ:=E5 B;have Aa:=E5 C;have V:Gb [N,A,H,I,B,C,J,K,L,M,E,F,G]=A.toNat:=by simp[Gb,AQ]
  have AL:I1 [N,A,H,I,B,C,J,K,L,M,E,F,G]=⟨AQ [H,I],(B.toNat:Int),(C.toNat:Int),AQ [J,K],AQ [L,M,E,F,G]⟩:=by simp[I1,AQ]
  simp only[CB,EE,DP,Nat.reduceAdd] at AJ;by_cases d:1<=A.toNat/\A.toNat<=99
  .have t:Hid (IZ [N,A,H,I,B,C,J,K,L,M,E,F,G]=true):=by
    unfold Hid IZ;rw[V];simpa using d
   have s:=O V;have r:=O AL;have Z:=A4 A.toNat 1;have AC:=A4 99 A.toNat
   go_in;go_wp2_with fail;have P:=AG.new w 167 #[(),(),(),(),()];have D:=(AN w w).alloc AK (.cells #[(),(),(),(),()] 167);refine DB [6,17,20,23] [0,1,2,3,4,5,7,8,9,10,11,12,13,14,15,16,18,19,6,17,20,21,22,23,24] w AF AF rfl AD AF BK ?_;refine Ea ?_;replace P:=P.drew;replace D:=D.drew;generalize (w.alloc (.cells #[(),(),(),(),()] 167)).drew=AO at *;replace W:=(D.cell (p:=⟨S,o+1,none⟩) Q).trans W;replace X:=(D.cell (p:=⟨S,o+4,none⟩) Q).trans X;replace Y:=(D.cell (p:=⟨S,o+5,none⟩) Q).trans Y;have AR:=Co Q D.size;iterate 18 refine DD ?_
   refine J5 ?_;intro R hK;refine Hl ?_;go_call Ev w _ _ _ (u.o.below D) AH as e w' ⟨rfl,rfl⟩;refine JG ?_;refine J5 ?_;intro R hK;refine Hl ?_;go_call Ev w _ _ _ (x.o.below D) AH as e w' ⟨rfl,rfl⟩;refine JG ?_;refine J5 ?_;intro R hK;refine Hl ?_;go_call Ev w _ _ _ (y.o.below D) AH as e w' ⟨rfl,rfl⟩;refine JG ?_;iterate 2 refine DD ?_
   have AS:=P.cell;have AT:=P.frozen;have AU:=P.lt;refine J5 ?_;intro R hK;go_simp;refine hK _ _ _ AK (nl DL AK _ _ _ _ _) ?_;refine Ov ?_;go_big_quiet_step (fail)
   refine Cj ?_;refine Dl ?_;go_wp2_with fail;refine BE (v:=.tuple #[A.toNat,XJ ⟨AQ [H,I],(B.toNat:Int),(C.toNat:Int),AQ [J,K],AQ [L,M,E,F,G]⟩,true]) (kG results72 _ _ w 167 _ (0,0) _ _ _ rfl rfl rfl (AIL P _ _ _ _ _) underlying167 rfl mo) rfl ?_;exact AIJ t.o (by rw[s.o]) r.o.symm (nl D AK _ _ _ _ _)
  .have FB:Hid (IZ [N,A,H,I,B,C,J,K,L,M,E,F,G]=false):=by
    unfold Hid IZ;rw[V];simpa using d
   by_cases AP:A.toNat<1
   .have Z:=Ar A.toNat 1;exact eO
   .have Z:=A4 A.toNat 1;have AC:=Ar 99 A.toNat
    exact eO
 .obtain⟨AW,AX,rfl,_⟩:=h;have AV:((l.length:Int) !=13)=true:=E8.2 U;have FB:Hid (IZ l=false):=by simp[Hid,IZ,f]
  exact eO
end
section
variable{S:List Nat}{v':AB}{n:Nat}
def AP.sub{T:List Nat}{a b:AA}(A:AP S a b)(F:∀x∈S,x∈T):AP T a b:=⟨A.os,A.tape,A.output,A.size,λB C E=>A.block B C (λD=>E (F B D))⟩
structure EF(w:AA)(BO:Nat)(i:Ins)(Ak:Nat)(ab:Nat->Nat)(Eg:AB)(cs:Array AB):Prop where
 blk:AG w BO 55 cs
 c4:cs[4]? = some (.pointer Ak)
 ca:∀p,p<100->cs[5+p]? = some (.pointer (some ⟨ab p,0,none⟩))
 RW:cs[105]? = some (i.last:AB)
 Nv:cs[106]? = some Eg
 fd:∃v,En w Ak i.f v
 acc:∀p,p<100->∃v,HQ w (ab p) v (i.a p)
 inj:∀p q,p<100->q<100->ab p=ab q->p=q
def Gi(BO Ak:Nat)(ab:Nat->Nat):List Nat:=BO::Ak::(List.range 100).map ab
def TT{BO Ak:Nat}{ab:Nat->Nat}{x:Nat}: x∈Gi BO Ak ab↔x=BO\/x=Ak\/∃p,p<100/\ab p=x:=by
 simp[Gi]
section
variable {w w':AA} {BO Ak:Nat} {i:Ins} {ab:Nat->Nat} {Eg:AB} {cs:Array AB}
def EF.kept(B:EF w BO i Ak ab Eg cs)(F:AP S w w')(C:∀g t cs,AG w g t cs->g∈S->t≠55/\t≠83/\t≠91/\t≠175/\t≠5/\t≠167):EF w' BO i Ak ab Eg cs:=by
 refine⟨B.blk.kept F (λA=>(C _ _ _ B.blk A).1 rfl),B.c4,B.ca,B.RW,B.Nv,?_,λI H=>?_,B.inj⟩
 .obtain⟨G,E⟩:=B.fd;exact⟨G,E.kept F (λA=>(C _ _ _ E.blk A).2.1 rfl) (λg cs D A=>(C _ _ _ D A).2.2.2.1 rfl) (λg cs D A=>(C _ _ _ D A).2.2.2.2.1 rfl)⟩
 .obtain⟨G,E⟩:=B.acc I H;exact⟨G,E.kept F (λA=>(C _ _ _ E.blk A).2.2.1 rfl) (λg cs D A=>(C _ _ _ D A).2.2.2.2.2 rfl)⟩
def EF.below(h:EF w BO i Ak ab Eg cs)(hb:Below w w w'):EF w' BO i Ak ab Eg cs:=
 h.kept (S:=[]) CX (λ_ _ _ _ A=>by cases A)
def EF.feed{E:List Kd}(h:EF w BO i Ak ab Eg cs)(I:En w' Ak E v')(F:AP [Ak] w w'):EF w' BO ⟨E,i.a,i.last⟩ Ak ab Eg cs:=by
 obtain⟨N,L⟩:=h.fd;have B:∀A D cs,AG w A D cs->D≠83->A∉[Ak]:=λA D cs C K G=>by
  simp only[Aj,A',A_] at G;subst G;exact K (C.same L.blk)
 refine⟨h.blk.kept F (B _ _ _ h.blk AD),h.c4,h.ca,h.RW,h.Nv,⟨v',I⟩,λp J=>?_,h.inj⟩;obtain⟨M,H⟩:=h.acc p J;exact⟨M,H.kept F (B _ _ _ H.blk AD) (λA cs C=>B _ _ _ C AD)⟩
def EF.post{p:Nat}{H:List A6}(h:EF w BO i Ak ab Eg cs)(I:p<100)(L:HQ w' (ab p) v' H)(E:AP [ab p] w w'):EF w' BO ⟨i.f,λq=>if q=p then H else i.a q,i.last⟩ Ak ab Eg cs:=by
 obtain⟨P,K⟩:=h.fd;obtain⟨Q,N⟩:=h.acc p I;have C:∀B G cs,AG w B G cs->G≠91->B∉[ab p]:=λB G cs A M D=>by
  simp only[Aj,A',A_] at D;subst D;exact M (A.same N.blk)
 refine⟨h.blk.kept E (C _ _ _ h.blk AD),h.c4,h.ca,h.RW,h.Nv,⟨P,K.kept E (C _ _ _ K.blk AD) (λB cs A=>C _ _ _ A AD) (λB cs A=>C _ _ _ A AD)⟩,λq J=>?_,h.inj⟩;by_cases F:q=p
 .subst F;simp only[CI];exact⟨v',L⟩
 .simp only[AU F];obtain⟨u2,O⟩:=h.acc q J;refine⟨u2,O.kept E (λD=>?_) (λB cs A=>C _ _ _ A AD)⟩;simp only[Aj,A',A_] at D;exact F (h.inj q p J I D)
def EF.month(h:EF w BO i Ak ab Eg cs)(n:Int):EF (w.setCell ⟨BO,105,none⟩ n) BO ⟨i.f,i.a,n⟩ Ak ab Eg (cs.setIfInBounds 105 n):=by
 obtain⟨D,B⟩:=h.fd;have hk:AP [BO] w (w.setCell ⟨BO,105,none⟩ n):=(AP.refl _ _).setCell AH _;have hT:∀g A cs,AG w g A cs->A≠55->g∉[BO]:=λg A cs hg ht hm=>by
  exact X6
 have C:=(E7.1 h.RW).1;refine⟨h.blk.put 105 _,?_,λp hp=>?_,?_,?_,⟨D,B.kept hk (hT _ _ _ B.blk AD) (λg cs hg=>hT _ _ _ hg AD) (λg cs hg=>hT _ _ _ hg AD)⟩,λq hq=>?_,h.inj⟩
 .exact pe
 .exact pu
 .rw[cG C]
 .rw[Nk AD];exact h.Nv
 .exact rf
end
def VM(i:Ins)(r:AE)(BO Ak:Nat)(ab:Nat->Nat)(Eg:AB)(w:AA)(e:Ending)(w':AA):Prop:=
 e=.returned (.bool (CO i r).isSome)/\AP (Gi BO Ak ab) w w'/\∀A,CO i r=some A->∃B,EF w' BO A Ak ab Eg B
def Xl{i:Ins}{r:AE}{BO Ak:Nat}{ab:Nat->Nat}{Eg:AB}{w w':AA}(A:CO i r=none)(C:AP (Gi BO Ak ab) w w'):VM i r BO Ak ab Eg w (.returned (.bool false)) w':=by
 unfold VM;rw[A];exact⟨rfl,C,λD B=>by cases B⟩
def eA{i j:Ins}{r:AE}{BO Ak:Nat}{ab:Nat->Nat}{Eg:AB}{B:Array AB}{w w':AA}(C:CO i r=some j)(E:AP (Gi BO Ak ab) w w')(D:EF w' BO j Ak ab Eg B):VM i r BO Ak ab Eg w (.returned (.bool true)) w':=by
 unfold VM;rw[C];exact⟨rfl,E,λF A=>by injection A with A;subst A;exact⟨B,D⟩⟩
def aK{t:UInt8}(h:t.toNat≠n):(((t.toNat:Nat):Int)==(n:Int))=false:=Aw.2 U
def d_(i:Ins)(b:AE):CO i (1::b)=(Dr i.f b).map λf=>⟨f,i.a,i.last⟩:=by simp[CO]
def Xk(i:Ins)(b:AE):CO i (2::b)=if IZ (2::b) then (EI (i.a (Gb (2::b))) (I1 (2::b))).map (λl=>⟨i.f,λp=>if p=Gb (2::b) then l else i.a p,i.last⟩) else none:=by
 simp[CO,IZ]
def Xj(i:Ins)(b:AE):CO i (3::b)=if b.length=2/\AQ b<=2399 then some ⟨i.f,i.a,AQ b⟩ else none:=by simp[CO]
def Ou(l:AE)(h:l.length<=5):0<=AQ l/\AQ l<=1099511627776:=by
 have B:=KW l;have:l.length=0\/l.length=1\/l.length=2\/l.length=3\/l.length=4\/l.length=5:=U;rcases this with A|A|A|A|A|A<;>rw[A] at B<;>omega
def np{r:AE}(h:r.length=13):hP (I1 r):=
 ⟨Ou _ AM,Ou _ AM,Ou _ AM,Ou _ AM,Ou _ AM⟩
def zi{B:Nat}{w:AA}{A C E:Nat}{t:UInt8}{b:AE}(h:Af B w (.slice (some ⟨A,C,none⟩) n E) (t::b)):Af B w (.slice (if E=1 then some ⟨A,C,none⟩ else some ⟨A,C+1,none⟩) b.length (E-1)) b:=by
 obtain⟨M,O,J,H,K⟩:=h;injection J with e1 e2 e3;subst e1 e3;simp only[CB] at H;refine⟨_,_,rfl,U,λP=>?_⟩;obtain⟨N,Q,D,G,I⟩:=K AH;injection D with D;injection D with e4 e5;subst e4 e5;refine⟨A,C+1,by rw[AU U],G,λF L hj=>?_⟩;rw[Nj,Nat.add_comm 1 F];exact I (F+1) L P0
def ACL(w:AA)(BO Ak:Nat)(ab:Nat->Nat)(Eg AR:AB)(cs:Array AB)(i:Ins)(r:AE)(k:Nat)(h:EF w BO i Ak ab Eg cs)(Ad:IA i k)(Ax:k<=20000)(v:Af w w AR r)(Ai:1<=r.length)(Aj:r.length<=400):
 AI 30 #[.pointer BO,AR] w (VM i r BO Ak ab Eg w):=by
 obtain⟨C,b,rfl⟩:∃C b,r=C::b:=by cases r with|nil=>simp at Ai|cons C b=>exact⟨C,b,rfl⟩
 obtain⟨a,AJ,rfl,o,f⟩:=id v;obtain⟨y,AL,rfl,Az,Ag⟩:=f AH;have AY:=Ag 0 C rfl;rw[Ci] at AY;have R:=O v;have AC:=O h;have Q:=O Ad;simp only[CB] at o Aj;have G:=AC.o.blk.cell 4;rw[AC.o.c4] at G;have m:=AC.o.blk.lt;by_cases V:C=1
 .subst V;go_in;go_wp2_with fail;refine QE [Ak] [6] [0,1,2,3,4,5,6,7,8] AF AF rfl AD AF BK ?_;refine Hm ?_;replace AC:=O Di;have AO:=O Yr;generalize w.drew=l at *;have G:=AC.o.blk.cell 4;rw[AC.o.c4] at G;have m:=AC.o.blk.lt;have Ao:¬BO=Ak:=λe=>by
   obtain⟨AM,d⟩:=AC.o.fd;rw[e] at AC;exact absurd (AC.o.blk.same d.blk) AD
  iterate 6 refine Fk ?_
  obtain⟨AM,d⟩:=AC.o.fd;have Al:=(zi (R.o.below AO.o)).mono AO.o.size;generalize (Value.slice (if AJ=1 then some ⟨y,AL,none⟩ else some ⟨y,AL+1,none⟩) b.length (AJ-1))=A3 at *;refine J6 ?_;intro AX hK;go_simp;go_at_call 71;refine(ACO _ Ak i.f AM _ b d Al U (by have:=Q.o.fl;omega)).mono ?_;intro e w' D;have hsub:∀P∈[Ak],P∈Gi BO Ak ab:=by simp[Gi]
  unfold P' at D;cases hadd:Dr i.f b with
  | none=>
   rw[hadd] at D;obtain⟨⟨n,Z,rfl⟩,hb⟩:=D;have u:(n==0)=false:=Aw.2 Z;have An:Hid (CO i (1::b)=none):=Zj;have E:=O u_;refine FT ?_;refine Ug ?_;go_wp2_with fail;go_ret;exact Xl An.o E.o
  | some AV=>
   rw[hadd] at D;obtain⟨rfl,v',Y,hk'⟩:=D;have An:Hid (CO i (1::b)=some ⟨AV,i.a,i.last⟩):=Zj;have E:=O uz;have T:=O (AC.o.feed Y hk');refine hK _ _ hk' ?_;refine Ug ?_;go_wp2_with fail;go_ret;exact eA An.o E.o T.o
 .by_cases W:C=2
  .subst W;go_in;go_wp2_with fail;go_call ABl _ _ (2::b) R.o as e w1 ⟨he,hb1⟩;cases F:IZ (2::b) with
   | false=>
    rw[F] at he;simp only[DW,DV] at he;subst he;have An:Hid (CO i (2::b)=none):=by simp[Hid,Xk,F]
    have E:=O (AW hb1 (((AN w1 w1).alloc AK (.cells #[(),(),(),(),()] 167)).drew));go_wp2_with fail;refine QE [] [9] [0,1,2,3,4,5,6,7,8,9,10,11,12] AF AF rfl AD AF BK ?_;refine Hm ?_;generalize (w1.alloc (.cells #[(),(),(),(),()] 167)).drew=l at *;iterate 2 refine Fk ?_
    iterate 7 (refine MT rfl rfl rfl rfl rfl ?_)
    refine Uk ?_;iterate 1 (refine MT rfl rfl rfl rfl rfl ?_)
    refine Ug ?_;go_wp2_with fail;go_ret;exact Xl An.o (AP.of_below E.o)
   | true=>
    rw[F] at he;simp only[CI,XJ] at he;subst he;have Ah:=Ic F;obtain⟨Ap,A1,A2⟩:=Ah;have AT:=O (np Ap);have U1:Hid (CO i (2::b)=(EI (i.a (Gb (2::b))) (I1 (2::b))).map (λAm=>⟨i.f,λp=>if p=Gb (2::b) then Am else i.a p,i.last⟩)):=by
     show _=_;rw[Xk,F];simp
    generalize Gb (2::b)=p at *;generalize I1 (2::b)=Ac at *;obtain⟨J,I,L,K,H⟩:=Ac;have Ae:=(AN w1 w1).alloc AK (.cells #[J,I,L,K,H] 167);have M:=AG.new w1 167 #[J,I,L,K,H];go_wp2_with fail;have N:p<100:=U;refine QE [ab p] [9] [0,1,2,3,4,5,6,7,8,9,10,11,12] AF AF rfl AD AF BK ?_;refine Hm ?_;replace M:=M.drew;have AO:=O (AW hb1 Ae.drew);generalize (w1.alloc (.cells #[J,I,L,K,H] 167)).drew=l at *;replace AC:=O vR;generalize w1.heap.size=Aa at *;have G:=AC.o.blk.cell (5+p);rw[AC.o.ca p N] at G;have m:=AC.o.blk.lt;obtain⟨Aq,c⟩:=AC.o.acc p N;have Ao:¬BO=ab p:=λe=>by
     have F:=AC.o.blk;rw[e] at F;exact absurd (F.same c.blk) AD
    have A0:¬Aa=ab p:=λe=>by
     rw[e] at M;exact absurd (M.same c.blk) AD
    obtain⟨A5,A,B,A6,A7,A9⟩:=M.DY;iterate 9 refine Fk ?_
    refine J6 ?_;intro AX hK;go_simp;go_at_call 73;refine(ABA _ (ab p) Aq (i.a p) ⟨J,I,L,K,H⟩ c (Q.o.RP p) AT.o (by have:=Q.o.al p;omega)).mono ?_;intro e w' D;have hsub:∀P∈[ab p],P∈Gi BO Ak ab:=λP f=>TT.2 (.inr (.inr ⟨p,N,(Jv.1 f).symm⟩));unfold Rx at D;cases hadd:EI (i.a p) ⟨J,I,L,K,H⟩ with
    | none=>
     rw[hadd] at D;obtain⟨⟨n,Z,rfl⟩,hb⟩:=D;have u:(n==0)=false:=Aw.2 Z;have An:Hid (CO i (2::b)=none):=vu;have E:=O u_;refine FT ?_;iterate 3 refine Fk ?_
     refine MU ?_;go_wp2_with fail;go_ret;exact Xl An.o E.o
    | some AS=>
     rw[hadd] at D;obtain⟨rfl,v',Y,hk',_⟩:=D;have An:Hid (CO i (2::b)=some ⟨i.f,λq=>if q=p then AS else i.a q,i.last⟩):=vu;have E:=O uz;have T:=O (AC.o.post N Y hk');refine hK _ _ hk' ?_;iterate 3 refine Fk ?_
     refine MU ?_;go_wp2_with fail;go_ret;exact eA An.o E.o T.o
  .by_cases X:C=3
   .subst X;go_in;by_cases s:b.length=2
    .obtain⟨A,B,rfl⟩:∃A B,b=[A,B]:=by match b,s with | [A,B],_=>exact⟨_,_,rfl⟩
     simp only[CB,EE,DP,Nat.reduceAdd] at o;have x:=(R.o.sub (n:=1) (k:=2) AH);simp only[Qz,Nh,Qq,List.take_zero] at x;have j:=O x;have Ay:=Ou [A,B] AH;have g:Hid (CO i [3,A,B]=if AQ [A,B]<=2399 then some ⟨i.f,i.a,AQ [A,B]⟩ else none):=by simp[Hid,Xj]
     go_wp2_with fail;go_call Ev w _ _ _ j.o AH as e w' ⟨rfl,rfl⟩;by_cases t:AQ [A,B]<=2399
     .have AZ:=A4 2399 (AQ [A,B]);have An:Hid (CO i [3,A,B]=some ⟨i.f,i.a,AQ [A,B]⟩):=by show _=_;rw[g.o,Ab t]
      go_wp2_with fail;go_call Ev w _ _ _ j.o AH as e w' ⟨rfl,rfl⟩;have G:=AC.o.blk.cell 105;rw[AC.o.RW] at G;have As:=AC.o.blk.frozen 105;go_wp2_with fail;go_ret;exact eA An.o ((AP.refl _ _).setCell (by simp[Gi]) _) (AC.o.month (AQ [A,B]))
     .have AZ:=Ar 2399 (AQ [A,B]);have An:Hid (CO i [3,A,B]=none):=by show _=_;rw[g.o,AU t]
      exact eK
    .have u:(((b.length:Int)+1) !=3)=true:=E8.2 U;have An:Hid (CO i (3::b)=none):=by
      simp[Hid,Xj,s]
     exact eK
   .have At:=aK (t:=C) (n:=1) (λe=>V fX);have Au:=aK (t:=C) (n:=2) (λe=>W fX);have Av:=aK (t:=C) (n:=3) (λe=>X fX);have An:Hid (CO i (C::b)=none):=by simp[Hid,CO,V,W,X]
    go_in;exact eK
end
def VY(B:Nat)(v:AB)(l:AE)(w:AA)(h:Af B w v l)(M:2<=l.length):
 AI 64 #[v] w (Bz (.int .i64 (AQ (l.take 2))) w):=by
 obtain⟨A,C,D,rfl⟩:∃A C D,l=A::C::D:=by
  match l,M with
  | A::C::D,_=>exact⟨_,_,_,rfl⟩
 obtain⟨Q,c,rfl,N,P⟩:=h;obtain⟨R,o,rfl,T,E⟩:=P AH;have L:=E 0 A rfl;have S:=E 1 C rfl;rw[Ci] at L;have V:=E5 A;have W:=E5 C;have H:(0:Int)<=(A.toNat:Int):=U;have I:(A.toNat:Int)<=1099511627776:=by have:=A.toNat_lt;omega
 have J:(0:Int)<=(C.toNat:Int):=U;have K:(C.toNat:Int)<256:=by have:=C.toNat_lt;omega
 have F:=O (ba _ _ H I J K);have G:Hid (AQ ((A::C::D).take 2)=(A.toNat:Int)*256+(C.toNat:Int)):=by simp[Hid,AQ]
 simp only[CB] at N;go_in;go_wp2_with fail;go_quiet (fail)
 go_wp2_with fail;go_ret;exact⟨by rw[G.o,<-F.o];rfl,by first|exact AN _ _|exact Do DL _⟩
def AHB(B:Nat)(v:AB)(l:AE)(w:AA)(h:Af B w v l)(E:l.length<=6):
 AI 65 #[v] w (BX (.int .i64 (AQ l)) w):=by
 obtain⟨C,c,rfl,D,hx⟩:=h;go_in;go_wp2;go_loop [3,8] (λx A=>∃j:Nat,j<=l.length/\A=.int .i64 j/\x=.int .i64 (AQ (l.take j))) (λ_ A=>l.length-(intOf A).toNat)
 case atStart=>exact⟨0,Az _,rfl,rfl⟩
 case round=>
  exact uK
section
attribute [local irreducible] Cu
def ABQ(w:AA)(A:Nat)(a:BH)(n c:Nat)(h:n=0\/400<n):
 AI 11 #[.pointer A,.slice a n c] w (BX (.int .i64 1) w):=by
 rcases h with rfl|h
 .exact FA
 .have B:((n:Int)==0)=false:=Aw.2 U;have C:=Ar 400 n;exact FA
def GN.AAA{B:Nat}{w:AA}{E:Nat}{I:AE}{H:List AE}{M:Int}(h:GN B w E I H M)(x:Int):GN B (w.setCell ⟨E,2,none⟩ x) E I H x:=by
 obtain⟨Q,R,J,N,O⟩:=h.ex;have K:AP [E] w (w.setCell ⟨E,2,none⟩ x):=(AP.refl _ _).setCell AH _;have F:∀G A C,AG w A G C->G≠58->A∉[E]:=λG A C D P L=>by
  simp only[Aj,A',A_] at L;subst L;exact P (D.same J)
 exact⟨Q,R,J.put 2 _,Bl N K (λA C D=>F _ A C D AD),O.kept K (λA C D=>F _ A C D AD) (λA C D=>F _ A C D AD)⟩
def AAi(B:Nat)(w:AA)(C:Nat)(A:AE)(E:List AE)(H:Int)(h:GN B w C A E H):
 AI 70 #[.pointer C] w λe F=>e=.returned (.tuple #[])/\GN B F C A E (A.length:Int)/\AP [C] w F:=by
 have G:=O (h.AAA (A.length:Int));obtain⟨Q,R,D,I,P⟩:=h.ex;obtain⟨J,c,rfl⟩:=CV I;obtain⟨K,M⟩:=D.y1;have L:=D.g2;have N:=D.frozen 2;go_in;go_wp2;refine Lh (v:=.tuple #[]) ?_ rfl ?_
 .simp[results,results70]
 .exact⟨rfl,G.o,(AP.refl _ _).setCell AH _⟩
def sliceLen(v:AB):Nat:=match v with | .slice _ n _=>n|_=>0
def ALp(l:AE)(w:AA)(e:Ending)(C:AA):Prop:=
 ∃B A D,e=.returned (.pointer (some ⟨B,0,none⟩))/\GN w C B A (B0 l) D/\A.length<=406*(B0 l).length/\Below w w C
structure Pj(w X:AA)(A1:Nat)(l:AE)(p:Nat)(bs:AE)(L:List AE)(a:BH)(c:Nat):Prop where
 De:GN w X A1 bs L 0
 sl:Af w X (.slice a (l.length-p) c) (l.drop p)
 AJ:Below w w X
 lo:w.heap.size<=A1
 le:bs.length<=406*L.length
def Pj.drew{w C:AA}{E:Nat}{l:AE}{p:Nat}{D:AE}{B:List AE}{a:BH}{c:Nat}(A:Pj w C E l p D B a c):Pj w C.drew E l p D B a c:=
 ⟨A.De.below (AN _ _).drew,A.sl.below (AN _ _).drew,A.AJ.drew,A.lo,A.le⟩
def V2{l d:AE}{A:List AE}(B:B0 l=A++G1 (20000-A.length) d)(C:EW d=false):Hid (B0 l=A):=by
 show _=_;rw[B,V4 C,El]
def ABP(v:AB)(l:AE)(w:AA)(h:Af w w v l)(BF:l.length<=140737488355328):
 AI 29 #[v] w (ALp l w):=by
 obtain⟨a,c,rfl,W,_⟩:=id h;have T:=(AN w w).alloc AK (.cells #[AL,AL,()] 58);have Al:Pj w (w.alloc (.cells #[AL,AL,()] 58)) w l 0 [] [] a c:=
  ⟨⟨_,_,AG.new _ _ _,Ia _ _ _ _,AS.mt⟩,h.below T,T,Bh _,AH⟩
 have s:=O Al;go_in;go_wp2_with fail;go_loopw [0] (λv wr=>∃(p:Nat) (I:AE) (C:List AE) (a:BH) (c:Nat),v=.slice a (l.length-p) c/\p<=l.length/\Pj w wr w l p I C a c/\C.length<=20000/\Hid (B0 l=C++G1 (20000-C.length) (l.drop p))) (λv _=>sliceLen v)
 case atStart=>exact⟨0,[],[],a,c,rfl,Az _,s.o,AH,by simp[Hid,B0]⟩
 case round=>
  obtain⟨p,I,C,a,c,rfl,BM,Ak,f,G⟩:=hrel;have Ax:=O Ak;have Ah:(l.drop p).length=l.length-p:=AH;have Il:=O Ah;generalize Ag:l.drop p=B at *;have J:=O Ag;generalize As:l.length-p=E at *;have L:=O As;obtain⟨BY,Ba,V,BN,Ao⟩:=Ax.o.De.ex;obtain⟨BQ,BR,rfl,BG⟩:=Ao.slice;have A9:=V.g1;have BA:=V.lt;by_cases BC:6<=E
  .have AT:=LC 6 E;by_cases AX:C.length=20000
   .have AM:=A4 C.length 20000;have Aq:Hid (B0 l=C):=by show _=_;rw[G.o,AX];simp[G1]
    exact YX
   .have AM:=Ar C.length 20000;obtain⟨D,o,rfl,BI⟩:∃D o,a=some ⟨D,o,none⟩/\E<=c:=by
     obtain⟨A7,BB,Ai,W,n⟩:=Ax.o.sl;have N:=J.o;rw[N] at W n;have BD:=Il.o;obtain⟨D,o,ha,_,_⟩:=n U;injection Ai with e1 e2 e3;exact⟨D,o,e1.trans ha,U⟩
    have A3:Af w wr (.slice (some ⟨D,o,none⟩) E c) B:=by
     have:=Ax.o.sl;rw[J.o,L.o] at this;exact D2
    have H:=O A3;have Y:=cw B OP;have r:=O Y.1;have BJ:=Y.2;have M:=O (λF=>PS (b:=B) F);go_wp2_with fail;have A1:Af w wr (.slice (some ⟨D,o,none⟩) 2 c) (B.take 2):=(by have:=H.o;rw[<-Il.o] at this;exact this:Af w wr (.slice (some ⟨D,o,none⟩) B.length c) B).jW 2 OP;go_call Ev w _ (B.take 2) _ A1 M8 as e w' ⟨rfl,rfl⟩;rw[r.o];generalize f:C6 B=A at *;have P:=O f;go_wp2_with fail;refine DB [20,26] [0,1,2,3,4,5,6,7,8,9,10,11,12,13,14,15,16,17,18,19,22,23,24,25,20,21,26,27,28] wr AF AF rfl AD AF BK ?_;refine Ea ?_;have An:Pj w wr.drew w l p I C (some ⟨D,o,none⟩) c:=Ax.o.drew;replace Ax:=O An;replace H:=O (H.o.below (AN w wr).drew);have A5:wr.heap.size=wr.drew.heap.size:=rfl;rw[A5];generalize wr.drew=Q at *;rcases Fg A 1 with AW|AW
    .have AO:=Ar A 1;have Aq:Hid (B0 l=C):=V2 G.o (PR (λF=>by have:=(M.o F).2.1;omega));exact eQ
    .have AO:=A4 A 1;rcases Fg 400 A with AY|AY
     .have AP:=Ar 400 A;have Aq:Hid (B0 l=C):=V2 G.o (PR (λF=>by have:=(M.o F).2.2.1;omega));exact eQ
     .have AP:=A4 400 A;rcases Fg E (6+A) with AZ|AZ
      .have AR:=Ar E (6+(A:Int));have Aq:Hid (B0 l=C):=V2 G.o (PR (λF=>by have:=(M.o F).2.2.2.1;have:=Il.o;omega));exact eQ
      .have AR:=A4 E (6+(A:Int));have BO:((2:Int)+(A:Int)).toNat=2+A:=U;have BP:((6:Int)+(A:Int)).toNat=6+A:=U;iterate 24 refine DD ?_
       refine HK ?_;intro K hK;go_at_call 69;have A2:Af w Q (.slice (some ⟨D,o+(2+A),none⟩) (6+A-(2+A)) (c-(2+A))) ((B.drop (A+2)).take 4):=by
        have:=H.o;rw[<-Il.o] at this;have:=this.sub (n:=2+A) (k:=4) OP;rw[show 6+A-(2+A)=4 by omega,show A+2=2+A by omega];exact D2
       have j:Af w Q (.slice (some ⟨D,o+2,none⟩) A (c-2)) ((B.drop 2).take A):=by
        have:=H.o;rw[<-Il.o] at this;exact this.sub (n:=2) (k:=A) OP
       have i:=KW ((B.drop (A+2)).take 4);rw[show((B.drop (A+2)).take 4).length=4 by have:=Il.o;rw[HE,EM];omega] at i;have Z:Hid (EW B=((AQ ((B.drop (A+2)).take 4))==(Da ((B.drop 2).take A):Int))):=by
        show _=_;unfold EW;rw[P.o,CA (show 2<=B.length by have:=Il.o;omega),CA (show 1<=A by omega),CA (show A<=400 by omega),CA (show A+6<=B.length by have:=Il.o;omega)];simp only[Nm]
       go_call Ev w _ _ _ A2 M8 as e w' ⟨rfl,rfl⟩;generalize AQ ((B.drop (A+2)).take 4)=q at *;obtain⟨BS,A6⟩:=i;have BT:q<4294967296:=A6;refine JG ?_;iterate 1 refine DD ?_
       refine HK ?_;intro K hK;go_at_call 40;go_call cn w _ _ _ j M8 as e w' ⟨rfl,rfl⟩;refine JG ?_;generalize BE:Da ((B.drop 2).take A)=S at *;by_cases hq:q=(S:Int)
       .subst hq;have Au:EW B=true:=by rw[Z.o];simp
        have x:=O (az (k:=20000-(C.length+1)) Au);have AC:=O j;iterate 2 refine DD ?_
        refine Dl ?_;go_wp2_with fail;have Ae:((B.drop 2).take A).length=A:=by have:=Il.o;rw[HE,EM];omega
        refine(kB w _ w I C 0 _ ((B.drop 2).take A) Ax.o.De Ax.o.AJ.size (AC.o.mono Ax.o.AJ.size) U U (by have:=Ax.o.le;omega) U).mono ?_;rintro e R ⟨rfl,Am,d⟩;have Ac:=Ax.o.AJ.trans (d.below Ax.o.AJ.size (λq hq=>by simp only[Aj,A',A_] at hq;subst hq;exact Bh _));obtain⟨BZ,Bb,Ad,A0,Ap⟩:=Ax.o.De.ex;obtain⟨BU,BV,Av⟩:=CV A0;obtain⟨BW,BX,Ay,_⟩:=Ap.slice;subst Av Ay;have At:=H.o.l4 OP Ad;have m:Af w R (.slice (some ⟨D,o,none⟩) E c) B:=H.o.Ta d Ax.o.AJ.size (λAJ ha=>by simpa using At AJ ha);have g:l.length-(p+(6+A))=E-(6+A):=by have:=L.o;omega
        have Aa:Pj w R w l (p+(6+A)) (I++be 2 (((B.drop 2).take A).length:Int)++(B.drop 2).take A++be 4 (Da ((B.drop 2).take A):Int)) (C++[(B.drop 2).take A]) (if c=6+A then some ⟨D,o,none⟩ else some ⟨D,o+(6+A),none⟩) (c-(6+A)):=by
         refine⟨Am,?_,Ac,Bh _,?_⟩
         .rw[g,<-I5,J.o];by_cases X:c=6+A
          .rw[Ab X];have N:(B.drop (6+A))=[]:=Mg OP;rw[N];exact⟨_,_,by rw[show E-(6+A)=0 by omega];rfl,AH,λh=>by simp at h⟩
          rw[AU X];rw[<-Il.o] at m;have:=m.sub (n:=6+A) (k:=E-(6+A)) OP;rw[HB (by have:=Il.o;rw[EM];omega)] at this;exact D2
         .have:=Ax.o.le;simp only[Cp,Dn,Ae,List.length_singleton];omega
        have u:=O Aa;have t:=O g;have y:Hid (B0 l=(C++[(B.drop 2).take A])++G1 (20000-(C.length+1)) (l.drop (p+(6+A)))):=by
         show _=_;have AV:l.drop (p+(6+A))=B.drop (A+6):=by rw[<-J.o,I5];congr 1;omega
         rw[G.o,show 20000-C.length=20000-(C.length+1)+1 by omega,x.o,P.o,AV,E9];rfl
        go_wp2_with fail;go_roundw
        case rel=>exact⟨p+(6+A),_,_,if c=6+A then some ⟨D,o,none⟩ else some ⟨D,o+(6+A),none⟩,c-(6+A),by rw[t.o],by have:=L.o;omega,u.o,P_,by show _=_;rw[y.o,Cp];rfl⟩
        case measure=>simp[sliceLen];omega
       .have BL:(q !=(S:Int))=true:=E8.2 hq;have Aq:Hid (B0 l=C):=V2 G.o (by rw[Z.o];exact Aw.2 hq);iterate 2 refine DD ?_
        refine Dl ?_;exact YX
  .have AT:=KI 6 E;have Aq:Hid (B0 l=C):=by
    show _=_;rw[G.o,V4 (PR (λF=>by have:=(PS F).2.1;have:=(PS F).2.2.2.1;have:=Il.o;omega)),El]
   exact YX
end
def Dp:Bm:=⟨1,1,1,false,3,13,0,5,9,0,0,0,0,0⟩
def E2:AE:=DU Dp
def DH:AE:=Dz 1 1 1 0 E2
def Id:Ins:=⟨[⟨1,1,DH⟩],Eh.a,Eh.last⟩
def PX:BY Dp=true:=AD
def AKn:G7 Dp=E2:=by simp[G7,PX,E2]
def pP:Ex 1 1 1 0 E2=true:=by
 obtain⟨A,B⟩:=dA PX;rw[dO,dm,E2,A,B];rfl
def Xg:7<=E2.length/\E2.length<=43:=nV (dA PX).1
def dx:DH.length=15+E2.length:=T9 _ _ _ _ _
def AKo:Jr 1 1 1 0 E2=0/\Jq 1 1 1 0 E2=DH:=by simp[Jr,Jq,pP,DH]
def Mn:CR DH=true/\Au DH=1/\Br DH=1/\Av DH=1/\Ba DH=0/\BC DH=E2:=AIU pP AD AD
def pQ:Dr [] DH=some [⟨1,1,DH⟩]:=by
 obtain⟨A,B,_,C,_⟩:=Mn;simp[Dr,A,B,C,EK,Bo]
def AKq:CO Eh (1::DH)=some Id:=by rw[d_];show(Dr [] DH).map _=_;rw[pQ];rfl
def dw(s n:Int):EK s n Id.f=if s=1/\n=1 then some DH else none:=by
 have A:=pd (l:=[]) List.Pairwise.nil pQ s n;rw[Mn.2.1,Mn.2.2.2.1] at A;exact A
def pO(s:Int):Hb Id.f s=if s=1 then [DH] else []:=by
 unfold Hb;by_cases A:s=1
 .subst A;rw[XX (b:=DH) (by rw[dw];simp) (by rw[Mn.2.2.2.2.1]),Nu (by rw[dw];simp)];rfl
 .rw[Nu (by rw[dw];simp[A]),AU A]
def pN:∀x∈Id.f,F7 x:=by
 intro x A;simp only[Id,Aj,A',A_] at A;subst A;exact⟨Mn.1,Mn.2.1.symm,Mn.2.2.2.1.symm⟩
