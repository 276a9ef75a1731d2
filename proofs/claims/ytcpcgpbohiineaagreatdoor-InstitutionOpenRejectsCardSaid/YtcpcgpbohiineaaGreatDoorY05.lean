/- Lemmas for Y28. -/
import Derived.Test.YtcpcgpbohiineaaGreatDoorY01
namespace Go.Proofs.YtcpcgpbohiineaaGreatDoor
open Go.RowKit Go.Proofs.Tryz
set_option linter.all false
set_option maxRecDepth 100000
set_option maxHeartbeats 4000000
structure A6 where
 m:Int
 k:Int
 w:Int
 n:Int
 a:Int
deriving DecidableEq
def FN(e:A6):Bool:=decide (0<=e.m)&&(decide (e.m<=2399)&&(decide (1<=e.a)&&(decide (e.a<=1000000000000) &&
 ((e.k==1&&(e.w==0&&e.n==0))||((e.k==2||e.k==3)&&(decide (0<=e.w)&&(decide (e.w<6)&&(decide (1<=e.n)&&decide (e.n<=999)))))))))
def Er(e:A6):Int:=if e.k=3 then-e.a else e.a
def Df(k w n:Int)(e:A6):Bool:=e.k==k&&(e.w==w&&e.n==n)
def FM(k w n:Int)(l:List A6):Bool:=l.any (Df k w n)
def D7(l:List A6):Int:=(l.map Er).sum
def IV(m:Int)(l:List A6):Bool:=l.any λA=>decide (m<A.m)
def EI(l:List A6)(e:A6):Option (List A6):=
 if FN e && !IV e.m l && !(FM e.k e.w e.n l && !(e.k==1))&&decide (-1000000000000<=D7 l+Er e)&&decide (D7 l+Er e<=1000000000000) then some (l++[e]) else none
structure KC(l:List A6):Prop where
 pS:l.Pairwise λx y=>x.m<=y.m
 ok:∀e∈l,FN e=true
 Nw : -1000000000000<=D7 l/\D7 l<=1000000000000
def KC.nil:KC []:=⟨.nil,AH,by simp[D7]⟩
def jv(l:List A6)(e:A6):D7 (l++[e])=D7 l+Er e:=by simp[D7]
def kx{l C:List A6}{e:A6}(A:EI l e=some C):FN e=true/\IV e.m l=false/\(FM e.k e.w e.n l=true->e.k=1)/\-1000000000000<=D7 l+Er e/\D7 l+Er e<=1000000000000/\C=l++[e]:=by
 unfold EI at A;split at A
 .rename_i B;simp only[At,Ni,CJ,Bool.and_eq_false_imp,Wd] at B;injection A with A;obtain⟨⟨⟨⟨D,E⟩,F⟩,G⟩,H⟩:=B;exact⟨D,E,λI=>by simpa using F I,G,H,A.symm⟩
 .cases A
def KC.post{l E:List A6}{e:A6}(C:KC l)(h:EI l e=some E):KC E:=by
 obtain⟨F,G,_,H,I,rfl⟩:=kx h;refine⟨List.pairwise_append.2 ⟨C.pS,AH,?_⟩,?_,by rw[jv];exact⟨H,I⟩⟩
 .intro B A J D;simp only[Jv] at D;subst D;have:=Wc.1 G B A;simp at this;exact D2
 .intro B A;rcases E1.1 A with A|A
  .exact C.ok B A
  .simp only[Jv] at A;subst A;exact F
def KC.late{l:List A6}(E:KC l)(m:Int):IV m l=match l.getLast? with|some B=>decide (m<B.m)|none=>false:=by
 cases h:l.getLast? with
 | none=>
  have:l=[]:=List.getLast?_eq_none_iff.1 h;subst this;rfl
 | some B=>
  obtain⟨G,rfl⟩:=List.getLast?_eq_some_iff.1 h;have D:=(List.pairwise_append.1 E.pS).2.2;simp only;by_cases C:m<B.m
  .rw[CA C];exact Nl.2 ⟨B,AH,CA C⟩
  .rw[DI C];refine Wc.2 λF A=>?_;rcases E1.1 A with A|A
   .have:=D F A B AH;simp;omega
   .simp only[Jv] at A;subst A;simpa using C
section
variable{l:List Oper}{dj dd m:Nat}{Kq:Bool}{C:AA->Prop}
structure IC(S:List Nat)(w:AA) where
 x:AA
 h:AP S w x
instance {S:List Nat} {w:AA} : Nonempty (IC S w):=⟨⟨w,AP.refl _ _⟩⟩
def IC.cell{S:List Nat}{w:AA}(y:IC S w)(b o:Nat)(A:b<w.heap.size)(B:b∉S):y.x.cell? ⟨b,o,none⟩=w.cell? ⟨b,o,none⟩:=Th (a:=⟨b,o,none⟩) (y.h.block b A B)
def IC.frozen{S:List Nat}{w:AA}(y:IC S w)(b o:Nat)(A:b<w.heap.size)(B:b∉S):y.x.frozen? ⟨b,o,none⟩=w.frozen? ⟨b,o,none⟩:=World.frozen?_of_block (a:=⟨b,o,none⟩) (y.h.block b A B)
attribute [go_sem] IC.cell IC.frozen
def C_(S:List Nat)(w:AA):AA->Prop:=λA=>∃B:IC S w,A=B.x
def C_.self(S:List Nat)(w:AA):C_ S w w:=⟨⟨w,AP.refl _ _⟩,rfl⟩
def C_.of{S:List Nat}{w A:AA}(B:AP S w A):C_ S w A:=⟨⟨A,B⟩,rfl⟩
def C_.sub{S:List Nat}{w A x:AA}(D:AP S w A)(F:C_ S A x):C_ S w x:=by
 obtain⟨B,rfl⟩:=F;exact⟨⟨B.x,D.trans B.h⟩,rfl⟩
section
variable {P:Program} {ops:Array Oper} {Q:Exit->Act->AA->Prop} {fin:Array Bool} {E:Act->AA->Prop} {S:List Nat}
def MM(op:Op):Bool:=Oo op||(match op with | .call c=>(match c.callee with | .builtin .max=>true | .builtin .min=>true|_=>false)|_=>false)
def ADq{ρ:Operand->AB}{o:Oper}{w:AA}{n:Next}{H:AA}(A:MM o.op=true)(B:(execOp ρ o).run P w=.ok n H):∃u,n=.value u:=by
 unfold MM at A;rw[Ki] at A;rcases A with A|A
 .exact lE A B
 .unfold execOp at B;cases G:o.op<;>rw[G] at B A<;>try (cases A;done)
  case call c=>
   obtain⟨F,args,I⟩:=c;cases F with
   | builtin D=>
    cases D<;>simp only at A<;>try (cases A;done)
    all_goals
     simp only[resolve,invoke,Lf,Q_,Result.andThen] at B;unfold builtin at B;exact aG B
   | _=>simp at A
def Qg(ops:Array Oper)(A:List Nat):List Nat->Array Bool->Bool
 | [],listed=>(Region.ready .any ops listed).isEmpty
 | i::rest,listed=>
  (if A.contains i then Region.ready .any ops listed==[i]
   else (Region.ready .any ops listed).contains i&&Region.free .any ops listed i&&(match ops[i]? with|some o=>MM o.op|none=>false))&&Qg ops A rest (listed.setIfInBounds i true)
def MO(ops:Array Oper)(fin:Array Bool)(A:List Nat):List Nat->Array Bool->Bool
 | [],listed=>listed==fin
 | i::rest,listed=>fin.getD i false &&
  (if A.contains i then Region.ready .any ops listed==[i]
   else (Region.ready .any ops listed).contains i&&Region.free .any ops listed i&&(match ops[i]? with|some o=>MM o.op|none=>false))&&MO ops fin A rest (listed.setIfInBounds i true)
def OV{o:Oper}{v:AB}{a:Act}(G:MM o.op=true)(B:YieldsIn P ops C o v a):YieldsIf P ops C o v a:=by
 rcases B with ⟨hw,H⟩|B
 .refine .inl ⟨hw,λF I=>?_⟩;have A:=H F I;unfold Oper.quietAt at A;cases D:(execOp a.eval o).run P F with
  | ok K J=>
   obtain⟨L,rfl⟩:=ADq G D;rw[D] at A;obtain⟨rfl,rfl⟩:=A;rfl
  | halt M J=>rw[D] at A;exact A.elim
 .exact .inr B
def EA(P:Program)(ops:Array Oper)(Q:Exit->Act->AA->Prop)(S:List Nat):List (Bool × Oper)->Act->AA->Prop
 | [],a,w=>Q .normal a w
 | (true,o)::rest,a,w=>if Region.wanted o (yielded ops a.tmps) then o.wp P a w (λA B=>AP S w B/\EA P ops Q S rest A B) Q else EA P ops Q S rest (a.put o.dst undef) w
 | (false,o)::rest,a,w=>wpQuiet P ops (C_ S w) (λA=>EA P ops Q S rest A w) [o] a
def aB(B:List Nat)(K:Region.noSelect l.toArray=true)(hQ:∀c a (d:Tmp) v w,Q (.panic c) (Act.put a (some d) v) w->Q (.panic c) a w):
 ∀(F:List Nat) (D:Array Bool) (a:Act) (w:AA),(∀i∈F,i<l.length)->Qg l.toArray B F D=true->EA P l.toArray Q S (marked l B F) a w->wpAnyH P .any l.toArray Q (C_ S w) F.length D a w
 | [],D,a,w,_,hB,h=>wpAnyH_done (by simpa[Qg] using hB) h _
 | i::rest,D,a,w,hlt,hB,h=>by
  obtain⟨o,hi⟩:∃o,l[i]? = some o:=⟨_,BL (hlt i (D0 ..))⟩;have hi':l.toArray[i]? = some o:=KF;rw[TU l B i rest _ hi] at h;simp only[Qg,At] at hB;obtain⟨A,L⟩:=hB;have H:=λa' w'=>aB B K hQ rest (D.setIfInBounds i true) a' w' (λI hj=>hlt I (Dq _ hj)) L;by_cases G:B.contains i=true
  .rw[G] at h A;simp only[CI,C7] at A;refine wpAnyH_all A AH λI hj=>?_;obtain rfl:I=i:=P0;unfold wpOp;rw[hi'];simp only[EA] at h;simp only;split
   .rename_i hw;rw[Ab hw] at h;refine .inl (PC (λa' w' hh=>?_) h);obtain⟨J,hh⟩:=hh;exact⟨C_.of J,aA (λX V=>C_.sub J V) _ _ _ _ (H a' w' hh)⟩
   .rename_i hw;rw[AU hw] at h;exact⟨C_.self S w,H _ w h⟩
  .rw[PA] at G;rw[G] at h A;simp only[DW,DV,At,hi'] at A;obtain⟨⟨U,O⟩,R⟩:=A;simp only[EA] at h;have T:qOp P l.toArray (C_ S w) i (λa'=>EA P l.toArray Q S (marked l B rest) a' w) a:=by
    exact Lo
   obtain⟨v,W,M⟩:=Le hi' T;have N:∀c a w,Q (.panic c) (Act.put a o.dst v) w->Q (.panic c) a w:=by
    exact Lt
   exact wpAnyH_take hi' K O U N (OV R W) (C_.self S w) (H _ w M)
def QE{id:Nat}{a:Act}{w:AA}(S:List Nat)(B A:List Nat)(H:P.follows .mixedOrders=true)(I:Region.noSelect l.toArray=true)
 (G:A.length=l.toArray.size)(hlt:(A.all λi=>decide (i<l.length))=true)(D:Qg l.toArray B A (Array.replicate l.toArray.size false)=true)
 (F:∀c a (d:Tmp) v w,Q (.panic c) (Act.put a (some d) v) w->Q (.panic c) a w)
 (h:EA P l.toArray Q S (marked l B A) a w.drew):(Code.region id l.toArray true).wp P Q a w:=by
 refine wp_region_held (S:=C_ S w.drew) H ?_;have:=aB B I F A (Array.replicate l.toArray.size false) a w.drew ZA D h;rw[G] at this;exact D2
section
variable {o:Oper} {rest:List (Bool × Oper)} {a:Act} {w:AA}
def AFg(B:wpQuiet P ops (λD=>∃y:IC S w,D=y.x) (λA=>EA P ops Q S rest A w) [o] a):EA P ops Q S ((false,o)::rest) a w:=B
def AFf(hw:Region.wanted o (yielded ops a.tmps)=false)(A:EA P ops Q S rest (a.put o.dst undef) w):EA P ops Q S ((true,o)::rest) a w:=by
 simp only[EA,hw,DW,DV];exact A
def AFi(hw:Region.wanted o (yielded ops a.tmps)=true)
 (h:∀K:Act->AA->Prop,(∀B A,AP S w A->EA P ops Q S rest B A->K B A)->o.wp P a w K Q):EA P ops Q S ((true,o)::rest) a w:=by
 simp only[EA,hw,CI];exact Rh
def AFh(hw:Region.wanted o (yielded ops a.tmps)=false)(A:EA P ops Q S rest (a.put o.dst undef) w):EA P ops Q S ((false,o)::rest) a w:=by
 simp only[EA,wpQuiet,hw,DW,DV];exact A
def ly{j:Nat}(A:o.guard=some (j,Kq))(B:(ops[j]?).bind (·.dst)=some dj)(D:a.tmps[dj]? = some (.bool (!Kq))):Region.wanted o (yielded ops a.tmps)=false:=by
 have F:yielded ops a.tmps j=some (!Kq):=by
  unfold yielded;rw[B];simp[D]
 unfold Region.wanted;rw[A];cases Kq<;>simp_all
def ACi{B:Option Tmp}(G:B=some dd)(A:a.tmps[dd]? = some undef):a.put B undef=a:=by
 subst G;obtain⟨D,I⟩:=a;simp only at A;have:D.setIfInBounds dd undef=D:=by
  apply Array.ext_getElem?;intro J;rw[I'];split
  .rename_i F;subst F;have H:=(E7.1 A).1;rw[Ab H,A]
  .rfl
 unfold Act.put;simp only[this]
def MT{j:Nat}(A:o.guard=some (j,Kq))(B:(ops[j]?).bind (·.dst)=some dj)(D:a.tmps[dj]? = some (.bool (!Kq)))(hd:o.dst=some dd)(hu:a.tmps[dd]? = some undef)(h:EA P ops Q S rest a w):EA P ops Q S ((false,o)::rest) a w:=
 AFh (ly A B D) vz
def AFe{j:Nat}(A:o.guard=some (j,Kq))(B:(ops[j]?).bind (·.dst)=some dj)(D:a.tmps[dj]? = some (.bool (!Kq)))(hd:o.dst=some dd)(hu:a.tmps[dd]? = some undef)(h:EA P ops Q S rest a w):EA P ops Q S ((true,o)::rest) a w:=
 AFf (ly A B D) vz
def MU(A:Q .normal a w):EA P ops Q S [] a w:=A
end
def J2(ops:Array Oper)(fin:Array Bool):Prop:=
 ∀(A:Nat) (D:Oper),ops[A]? = some D->fin.getD A false=false->∀B,fin.getD B false=true->Om ops 6 A B=true
def Sg(ops:Array Oper)(fin:Array Bool):Bool:=
 (List.range ops.size).all λA=>fin.getD A false||match ops[A]? with
  | some _=>(List.range fin.size).all λB=>!fin.getD B false||Om ops 6 A B
  | none=>true
def Vh(h:Sg ops fin=true):J2 ops fin:=by
 exact tY
def LN(B:J2 ops fin){A:Array Bool}(D:FY ops A){i j:Nat}(G:A.getD i false=false)(H:fin.getD i false=true)(I:j∈Region.ready .any ops A):fin.getD j false=true:=by
 obtain⟨_,J,NY,hall⟩:=I7.1 I;cases F:fin.getD j false
 .have:=bA D i 6 j (B j J NY F i H) vh;rw[G] at this;cases this
 .rfl
def Is(P:Program)(ops:Array Oper)(Q:Exit->Act->AA->Prop)(S:List Nat)(fin:Array Bool)(E:Act->AA->Prop):Nat->Array Bool->Act->AA->Prop
 | 0,listed,a,w=>listed=fin/\∀A,Below w w A->E a A
 | fuel+1,listed,a,w=>Region.ready .any ops listed≠[]/\(∀B∈Region.ready .any ops listed,fin.getD B false=true)/\
  ∀A,Below w w A->∀B∈Region.ready .any ops listed,wpOp P ops Q B (λF D=>AP S A D/\Is P ops Q S fin E fuel (listed.setIfInBounds B true) F D) a A
def il{fuel:Nat}{A:Array Bool}{a:Act}{w B:AA}(h:Is P ops Q S fin E fuel A a w)(hb:Below w w B):Is P ops Q S fin E fuel A a B:=by
 exact r_
def ib(hE:∀a w,E a w->wpAny P .any ops Q m fin a w):∀(fuel:Nat) (A:Array Bool) (a:Act) (w:AA),Is P ops Q S fin E fuel A a w->wpAny P .any ops Q (fuel+m) A a w
 | 0,A,a,w,h=>by
  exact p6
 | fuel+1,A,a,w,h=>by
  refine Uf ?_;exact⟨λF=>absurd F h.1,λH G=>I9 (λB I D=>ib hE fuel _ B I D.2) (h.2.2 w DL H G)⟩
def io{i:Nat}{oi:Oper}{v:AB}(hW:J2 ops fin)(I:ops[i]? = some oi)(hif:fin.getD i false=true)(M:∀(j:Nat) (o:Oper) F D,ops[j]? = some o->o.op≠.select F D)
 (O:∀c a w,Q (.panic c) (a.put oi.dst v) w->Q (.panic c) a w):
 ∀(G:Nat) (listed:Array Bool) (a:Act) (w:AA),FY ops listed->
  (∀j A,ops[j]? = some A->j≠i->listed.getD j true=false->(∀e∈A.after,Region.binds .any e=true->e.on≠i)->oi.apart ops A=true)->
  i∈Region.ready .any ops listed->YieldsIf P ops (C_ S w) oi v a->
  Is P ops Q S fin E G (listed.setIfInBounds i true) (a.put oi.dst v) w->Is P ops Q S fin E (G+1) listed a w:=by
 intro G;induction G with
 | zero=>
  intro listed a w hc _ hr K H;refine⟨λh=>KG,λj hj=>LN hW hc (Ge hr) hif hj,λL B j hj=>?_⟩;by_cases Dy:j=i
  .subst Dy;exact K.wpOp I (C_.of (AP.of_below B)) ⟨AP.refl _ _,H.1,λw'' T=>H.2 w'' (AW B T)⟩
  .exact YI
 | succ G ih=>
  intro listed a w hc hfree hr K H;refine⟨λh=>KG,λj hj=>LN hW hc (Ge hr) hif hj,λL B j hj=>?_⟩;have N:YieldsIf P ops (C_ S L) oi v a:=by
   refine K.imp (λ⟨h1,h2⟩=>⟨h1,λx hx=>h2 x (C_.sub (AP.of_below B) hx)⟩) id
  by_cases Dy:j=i
  .subst Dy;exact N.wpOp I (C_.self _ _) ⟨AP.refl _ _,il H B⟩
  .have h1:=H.2.2 L B j Uw;obtain⟨Na,A,J,hall⟩:=I7.1 hj;have R:∀e∈A.after,Region.binds .any e=true->e.on≠i:=λe he hb heq=>by
    exact US
   have h2:=wpOp_putIf J (hfree j A J Dy Na R) (λF D=>M i oi F D I) (λF D=>M j A F D J) O N h1;exact uA
def IE(P:Program)(ops:Array Oper)(Q:Exit->Act->AA->Prop)(S:List Nat)(E:Act->AA->Prop):List (Bool × Oper)->Act->AA->Prop
 | [],a,w=>∀A,Below w w A->E a A
 | (true,o)::rest,a,w=>∀A,Below w w A->
  if Region.wanted o (yielded ops a.tmps) then o.wp P a A (λB D=>AP S A D/\IE P ops Q S E rest B D) Q else IE P ops Q S E rest (a.put o.dst undef) A
 | (false,o)::rest,a,w=>wpQuiet P ops (C_ S w) (λB=>IE P ops Q S E rest B w) [o] a
def ik(B:List Nat)(G:J2 l.toArray fin)(H:Region.noSelect l.toArray=true)(hQ:∀c a (d:Tmp) v w,Q (.panic c) (Act.put a (some d) v) w->Q (.panic c) a w):
 ∀(D:List Nat) (A:Array Bool) (a:Act) (w:AA),FY l.toArray A->(∀i∈D,i<l.length)->MO l.toArray fin B D A=true->IE P l.toArray Q S E (marked l B D) a w->Is P l.toArray Q S fin E D.length A a w
 | [],A,a,w,_,_,hB,h=>⟨by simpa[MO] using hB,h⟩
 | i::rest,A,a,w,hc,hlt,hB,h=>by
  obtain⟨o,hi⟩:∃o,l[i]? = some o:=⟨_,BL (hlt i (D0 ..))⟩;have hi':l.toArray[i]? = some o:=KF;rw[TU l B i rest _ hi] at h;simp only[MO,At] at hB;obtain⟨⟨hif,DM⟩,I⟩:=hB;have ih:=λhi a' w'=>ik B G H hQ rest (A.setIfInBounds i true) a' w' (Gm hc hi) (λj hj=>hlt j (Dq _ hj)) I;by_cases F:B.contains i=true
  .rw[F] at h DM;simp only[CI,C7] at DM;have Hx:i∈Region.ready .any l.toArray A:=Gw;refine⟨Gw,λj hj=>?_,λw' O j hj=>?_⟩
   .exact UL
   .obtain rfl:j=i:=OT;unfold wpOp;rw[hi'];simp only[IE] at h;have h1:=h w' O;simp only;split
    .exact qE
    .rename_i hw;rw[AU hw] at h1;exact⟨AP.refl _ _,ih Hx _ w' h1⟩
  .rw[PA] at F;rw[F] at h DM;simp only[DW,DV,At,hi'] at DM;obtain⟨⟨hr,L⟩,M⟩:=DM;have Hx:i∈Region.ready .any l.toArray A:=Pz;simp only[IE] at h;have N:qOp P l.toArray (C_ S w) i (λa'=>IE P l.toArray Q S E (marked l B rest) a' w) a:=by
    exact Lo
   obtain⟨v,R,J⟩:=Le hi' N;have K:∀c a w,Q (.panic c) (Act.put a o.dst v) w->Q (.panic c) a w:=by
    exact Lt
   exact io G hi' hif (Me H) K _ A a w hc (O_ hi' L) Hx (OV M R) (ih Hx _ w J)
def xo{o:Oper}{a:Act}{K B:Act->Prop}(D:∀a,K a->B a)(A:wpQuiet P ops C K [o] a):wpQuiet P ops C B [o] a:=by
 simp only[wpQuiet] at A ⊢;split
 .rename_i hw;rw[Ab hw] at A;exact Oper.quiet_mono D A
 .rename_i hw;rw[AU hw] at A;exact D _ A
def JT(P:Program)(ops:Array Oper)(S:List Nat)(w:AA)(K:Act->Prop):List Oper->Act->Prop
 | [],a=>K a
 | o::rest,a=>wpQuiet P ops (C_ S w) (λA=>JT P ops S w K rest A) [o] a
def TJ(ops:Array Oper)(fin:Array Bool):List Nat->Array Bool->Array Bool->Bool
 | [],listed,A=>listed==A
 | i::rest,listed,A=>fin.getD i false&&((Region.ready .any ops listed).contains i&&Region.free .any ops listed i&&(match ops[i]? with|some o=>MM o.op|none=>false))&&TJ ops fin rest (listed.setIfInBounds i true) A
def picked(l:List Oper):List Nat->List Oper
 | []=>[]
 | i::rest=>match l[i]? with
  | some o=>o::picked l rest
  | none=>[]
def AD5(l:List Oper)(i:Nat)(rest:List Nat)(o:Oper)(A:l[i]? = some o):picked l (i::rest)=o::picked l rest:=by simp[picked,A]
def im(G:J2 l.toArray fin)(I:Region.noSelect l.toArray=true)(hQ:∀c a (d:Tmp) v w,Q (.panic c) (Act.put a (some d) v) w->Q (.panic c) a w){B:Array Bool}{w:AA}:
 ∀(D:List Nat) (A:Array Bool) (a:Act),FY l.toArray A->(∀i∈D,i<l.length)->TJ l.toArray fin D A B=true->
  JT P l.toArray S w (λF=>FY l.toArray B->Is P l.toArray Q S fin E m B F w) (picked l D) a->Is P l.toArray Q S fin E (m+D.length) A a w
 | [],A,a,hc,_,hB,h=>by
  simp only[TJ,C7] at hB;subst hB;exact h hc
 | i::rest,A,a,hc,hlt,hB,h=>by
  obtain⟨o,hi⟩:∃o,l[i]? = some o:=⟨_,BL (hlt i (D0 ..))⟩;have hi':l.toArray[i]? = some o:=KF;rw[AD5 l i rest _ hi] at h;simp only[TJ,At,hi'] at hB;obtain⟨⟨N,⟨hr,M⟩,R⟩,J⟩:=hB;have H:i∈Region.ready .any l.toArray A:=Pz;simp only[JT] at h;have T:qOp P l.toArray (C_ S w) i (λa'=>JT P l.toArray S w (λF=>FY l.toArray B->Is P l.toArray Q S fin E m B F w) (picked l rest) a') a:=by
   exact Lo
  obtain⟨v,U,K⟩:=Le hi' T;have L:∀c a w,Q (.panic c) (Act.put a o.dst v) w->Q (.panic c) a w:=by
   exact Lt
  exact io G hi' N (Me I) L _ A a w hc (O_ hi' M) H (OV R U) (im G I hQ rest _ _ (Gm hc H) (λV O=>hlt V (Dq _ O)) J K)
structure C0 where
 i:Nat
 d:Tmp
 t:TypeId
 z:Array AB
 v:Nat->AB
def Ef(a:Act):List (C0 × Option Nat)->Act
 | []=>a
 | (x,some b)::s=>(Ef a s).put (some x.d) (x.v b)
 | (_,none)::s=>Ef a s
def bq(a:Act)(x:C0)(b:Nat)(B:List (C0 × Option Nat)):∀A:List (C0 × Option Nat),(∀y∈A,y.1.d≠x.d)->(Ef a (A++(x,none)::B)).put (some x.d) (x.v b)=Ef a (A++(x,some b)::B)
 | [],_=>rfl
 | (y,none)::A,h=>bq a x b B A λF D=>h F (Dq _ D)
 | (y,some c)::A,h=>by
  have hne:=h (y,some c) (D0 ..);simp only[DC,Ef];rw[Act.put_comm _ _ _ vf,bq a x b B A λF D=>h F (Dq _ D)]
def NQ(a:Act)(A:Option Tmp)(u:AB):∀s:List (C0 × Option Nat),(∀y∈s,A≠some y.1.d)->(Ef a s).put A u=Ef (a.put A u) s
 | [],_=>rfl
 | (y,none)::s,h=>NQ a A u s λD B=>h D (Dq _ B)
 | (y,some c)::s,h=>by
  have hne:=h (y,some c) (D0 ..);simp only[Ef];rw[Act.put_comm _ _ _ ve,NQ a A u s λD B=>h D (Dq _ B)]
def br(a:Act)(d:Deferred):∀s:List (C0 × Option Nat),({ Ef a s with defers:=d::(Ef a s).defers } : Act)=Ef { a with defers:=d::a.defers } s
 | []=>rfl
 | (y,none)::s=>br a d s
 | (y,some c)::s=>by
  simp only[Ef];rw[Act.put_defers,br a d s]
def WM(a:Act)(o:Oper)(hs:∀cs b,o.op≠.select cs b):∀s:List (C0 × Option Nat),(∀y∈s,y.1.d∉o.looksAt ops)->execOp (Ef a s).eval o=execOp a.eval o/\Region.wanted o (yielded ops (Ef a s).tmps)=Region.wanted o (yielded ops a.tmps)
 | [],_=>⟨rfl,rfl⟩
 | (y,none)::s,h=>WM a o hs s λB A=>h B (Dq _ A)
 | (y,some c)::s,h=>by
  have hne:=h (y,some c) (D0 ..);obtain⟨e1,e2⟩:=WM a o hs s λB A=>h B (Dq _ A);simp only[Ef];exact rK
def WL(B:∀c a (d:Tmp) v w,Q (.panic c) a w->Q (.panic c) (Act.put a (some d) v) w){c:_}{a:Act}{w:AA}(A:Q (.panic c) a w):∀s:List (C0 × Option Nat),Q (.panic c) (Ef a s) w
 | []=>A
 | (y,none)::s=>WL B A s
 | (y,some b)::s=>B _ _ _ _ _ (WL B A s)
def Z2(x:Oper)(a A:Act):Prop:=execOp A.eval x=execOp a.eval x
def xq{j:Nat}{B:Oper}(R:ops[j]? = some B)(V:∀cs b,B.op≠.select cs b)(s:List (C0 × Option Nat))(T:∀y∈s,y.1.d∉B.looksAt ops)(D:∀y∈s,B.dst≠some y.1.d)
 (L:∀c a (d:Tmp) v w,Q (.panic c) a w->Q (.panic c) (Act.put a (some d) v) w){K:Act->AA->Prop}{a:Act}{w:AA}(h:wpOp P ops Q j K a w):
 wpOp P ops Q j (λM J=>∃H,M=Ef H s/\K H J/\∀x:Oper,(∀cs b,x.op≠.select cs b)->(∀d,B.dst=some d->d∉x.looksAt ops)->Z2 x a H) (Ef a s) w:=by
 obtain⟨he,hw⟩:=WM (ops:=ops) a B V s T;have F:∀(G:Act) (A:AB),G.eval=a.eval->∀x:Oper,(∀cs b,x.op≠.select cs b)->(∀d,B.dst=some d->d∉x.looksAt ops)->Z2 x a (G.put B.dst A):=by
  intro G A ha x W O;unfold Z2;rw[execOp_put (ops:=ops) x W G B.dst A O,ha]
 unfold wpOp at *;simp only[R] at *;rw[hw];split
 .rename_i I;simp only[I,CI] at h;rcases h with h|⟨hasks,U⟩;case inr=>exact .inr ⟨w_,U⟩
  refine .inl ?_;unfold Oper.wp at *;rw[he];generalize (execOp a.eval B).run P w=Y at *;cases Y with
  | ok X J=>
   cases X<;>simp only[Oper.upon] at h ⊢
   case value A=>exact⟨_,NQ a _ A s D,h,F a A rfl⟩
   case skip=>exact⟨_,NQ a _ _ s D,h,F a _ rfl⟩
   case defer d=>exact⟨_,by rw[br];exact NQ _ _ _ s D,h,F _ _ rfl⟩
   case enter e args=>
    refine Calls.mono h λN Z he=>?_;cases N with
    | returned A=>exact⟨_,NQ a _ A s D,he,F a A rfl⟩
    | panicked c=>exact WL L he s
    | outgrown=>exact he
   case row row args=>exact Rows.mono h λA Z he=>⟨_,NQ a _ A s D,he,F a A rfl⟩
  | halt x J=>
   cases x<;>simp only[Oper.upon] at h ⊢
   case panic A=>exact WL L h s
 .rename_i I;simp only[I] at h;exact⟨_,NQ a _ _ s D,h,F a _ rfl⟩
structure vN(ops:Array Oper)(fin mL:Array Bool)(al:List C0):Prop where
 op:∀x∈al,∃o,ops[x.i]? = some o/\o.dst=some x.d/\o.guard=none/\(∀e∈o.after,Region.binds .any e=true->mL.getD e.on false=true)/\(∀y∈al,y.d∉o.looksAt ops)
 pre:∀x∈al,fin.getD x.i false=true
 other:∀j oj,ops[j]? = some oj->fin.getD j false=true->mL.getD j true=false->(∀x∈al,x.i≠j)->∀x∈al,x.d∉oj.looksAt ops/\oj.dst≠some x.d/\∀o,ops[x.i]? = some o->∀d,oj.dst=some d->d∉o.looksAt ops
 slots:(al.map C0.d).Nodup
 idx:(al.map C0.i).Nodup
def vM(P:Program)(ops:Array Oper)(B:List C0)(a:Act):Prop:=∀A∈B,∀o,ops[A.i]? = some o->∀w,(execOp a.eval o).run P w=.ok (.value (A.v w)) (w.alloc (.cells A.z A.t))
def EJ(s:List (C0 × Option Nat)):List Nat:=s.filterMap λA=>match A.2 with|none=>some A.1.i|some _=>none
def bu(p:C0 × Option Nat)(s:List (C0 × Option Nat)):EJ (p::s)=(match p.2 with|none=>p.1.i::EJ s|some _=>EJ s):=by
 obtain⟨A,o⟩:=p;cases o<;>simp[EJ]
def mB(s t:List (C0 × Option Nat)):EJ (s++t)=EJ s++EJ t:=by simp[EJ]
structure J7(B:Nat)(s:List (C0 × Option Nat))(w:AA):Prop where
 blk:∀x b,(x,some b)∈s->B<=b/\b<w.heap.size/\AG w b x.t x.z
 nodup:(s.filterMap Prod.snd).Nodup
def J7.kept{B:Nat}{s:List (C0 × Option Nat)}{w I:AA}(D:J7 B s w)(H:AP S w I)(J:∀k∈S,k<B):J7 B s I:=
 ⟨λG A F=>⟨(D.blk G A F).1,Co (D.blk G A F).2.1 H.size,(D.blk G A F).2.2.kept H (λK=>by have L:=J A K;have M:=(D.blk G A F).1;omega)⟩,D.nodup⟩
def J7.rely{B:Nat}{s:List (C0 × Option Nat)}{w A:AA}(h:J7 B s w)(hb:Below w w A):J7 B s A:=h.kept (S:=[]) CX AH
def J7.make{B:Nat}{s1 s2:List (C0 × Option Nat)}{x:C0}{w:AA}(h:J7 B (s1++(x,none)::s2) w)(hB:B<=w.heap.size):J7 B (s1++(x,(some w.heap.size:Option Nat))::s2) (w.alloc (.cells x.z x.t)):=by
 exact uC
def iO(B:Nat)(D:List C0)(E:Act->AA->Prop)(a:Act)(w:AA):Prop:=
 ∀A:List (C0 × Option Nat),A.map Prod.fst=D->EJ A=[]->J7 B A w->E (Ef a A) w
def x4{A:List C0}{B:Nat}{O:Array Bool}(J:vN ops fin O A)(AO:J2 ops fin)(AM:∀k∈S,k<B)(g:∀(j:Nat) (o:Oper) F b,ops[j]? = some o->o.op≠.select F b)
 (AJ:∀c a (d:Tmp) v w,Q (.panic c) a w->Q (.panic c) (Act.put a (some d) v) w):
 ∀(m fuel:Nat) (s:List (C0 × Option Nat)) (listed:Array Bool) (a:Act) (w:AA),FY ops listed->(∀i,O.getD i false=true->listed.getD i false=true)->(∀i,listed.getD i true=false->O.getD i true=false)->vM P ops A a->m=fuel+(EJ s).length->s.map Prod.fst=A->J7 B s w->B<=w.heap.size->
  (∀i∈EJ s,listed.getD i true=false)->(∀x b,(x,some b)∈s->listed.getD x.i true=true)->
  Is P ops Q S fin (iO B A E) fuel (G4 listed (EJ s)) a w->Is P ops Q S fin E m listed (Ef a s) w:=by
 intro m;induction m with
 | zero=>
  intro fuel s listed a w V _ _ _ hm hs T hB hun PM H;have hp:EJ s=[]:=Jw U;have AT:fuel=0:=U;subst AT;rw[hp] at H;exact⟨H.1,λL hw'=>H.2 L hw' s hs hp (T.rely hw')⟩
 | succ m AC=>
  intro fuel s listed a w V X r f hm hs T hB hun PM H;have key:Region.ready .any ops listed≠[]/\∀i∈Region.ready .any ops listed,fin.getD i false=true:=by
   rcases hp:EJ s with _|⟨i,Ab⟩
   .exact qa
   .have hi:i∈EJ s:=wm;have AU:=hun i hi;obtain⟨⟨x,o⟩,hx,ho⟩:=PB.1 hi;rcases o with _|o
    .simp only[CW] at ho;subst ho;have N:x∈A:=Zu;obtain⟨K,h1,R,n,q,_⟩:=J.op x N;have e:x.i∈Region.ready .any ops listed:=I7.2 ⟨AU,K,h1,λAF AR hb=>X _ (q AF AR hb)⟩;exact⟨(λh=>by rw[h] at e;cases e),λj G=>LN AO V (Ge e) (J.pre x N) G⟩
    .cases ho
  have u:∀j i,O.getD i false=true->(listed.setIfInBounds j true).getD i false=true:=λj i hi=>by
   by_cases M:j=i
   .subst M;have:=X j hi;rcases Fg j listed.size with h' | h'
    .simp[h']
    .simp[Kl h'] at this
   .rw[Nn false M];exact X i hi
  have z:∀j i,(listed.setIfInBounds j true).getD i true=false->O.getD i true=false:=λj i hi=>by
   by_cases M:j=i
   .subst M;rcases Fg j listed.size with h' | h'
    .simp[h'] at hi
    .simp at hi
   .rw[Nn true M] at hi;exact r i hi
  refine⟨key.1,key.2,λL hw' j G=>?_⟩;obtain⟨Na,AD,Y,_⟩:=I7.1 G;by_cases PI:j∈EJ s
  .obtain⟨⟨x,o⟩,hx,ho⟩:=PB.1 PI;rcases o with _|o
   .simp only[CW] at ho;subst ho;have N:x∈A:=Zu;obtain⟨K,h1,R,n,q,AI⟩:=J.op x N;have AS:=(WM (ops:=ops) a K (λF b=>g x.i K F b h1) s (λy hy=>AI y.1 iA)).1;have AB:=f x N K h1 L;rw[<-AS] at AB;obtain⟨D,I,rfl⟩:=List.append_of_mem hx;have W:=J.slots;have Mc:=J.idx;rw[<-hs] at W Mc;simp only[Li,HA,List.map_map] at W Mc;rw[Wj] at W Mc;have AV:∀y∈D,y.1.d≠x.d:=λy hy=>W.2.2 _ (Gr.2 ⟨y,hy,rfl⟩) _ (D0 ..);have hp:EJ (D++(x,none)::I)=EJ D++x.i::EJ I:=by rw[mB,bu]
    have hp':EJ (D++(x,(some L.heap.size:Option Nat))::I)=EJ D++EJ I:=by rw[mB,bu]
    unfold wpOp;rw[h1];have AX:Region.wanted K (yielded ops (Ef a (D++(x,none)::I)).tmps)=true:=by simp[Region.wanted,n]
    simp only[AX,CI];refine .inl ?_;unfold Oper.wp;rw[AB];simp only[Oper.upon,R];refine⟨AP.of_below C8,?_⟩;rw[bq a x L I D AV];have cZ:x.i∉(D.map λy=>y.1.i)/\x.i∉(I.map λy=>y.1.i):=by
     exact rv
    have cY:∀(t:List (C0 × Option Nat)) i,i∈EJ t->i∈t.map λy=>y.1.i:=by
     exact sM
    refine AC fuel _ _ a _ (Gm V G) (u _) (z _) f ?_ ?_ ((T.rely hw').make (Ap hB hw'.size)) vc ?_ ?_ ?_
    .rw[hp] at hm;rw[hp'];simp at hm ⊢;omega
    .rw[<-hs];simp
    .exact sO
    .exact tN
    .rw[hp',mK,<-hp];exact il H (AW hw' C8)
   .cases ho
  .have Wv:∀x∈A,x.i≠j:=by
    exact sY
   have PJ:=key.2 j G;have Ww:=kV (EJ s) G PI;rcases fuel with _|fuel
   .exact pj
   .have h1:=H.2.2 L hw' j Ww;have ho:=J.other j AD Y PJ (r j Na) Wv;have hsa:∀y∈s,y.1∈A:=λy hy=>iA;have AG:=xq Y (λF b=>g j AD F b Y) s (λy hy=>(ho y.1 (hsa y hy)).1) (λy hy=>(ho y.1 (hsa y hy)).2.1) AJ h1;refine I9 (λAa AY R=>?_) AG;obtain⟨AE,rfl,⟨hb,AL⟩,AQ⟩:=R;refine⟨hb,AC fuel s _ AE AY (Gm V G) (u _) (z _) ?_ U hs ((T.rely hw').kept hb AM) vb (λi hi=>?_) (λy b hy=>?_) ?_⟩
    .intro x hx o Z AZ;have:=AQ o (λF b=>g x.i o F b Z) ((ho x hx).2.2 o Z);unfold Z2 at this;rw[this];exact f x hx o Z AZ
    .exact qM
    .exact qR
    .rw[b8];exact AL
def bw(ops:Array Oper)(fin G:Array Bool)(B:List C0):Bool:=
 (B.all λA=>(match ops[A.i]? with|some o=>o.dst==some A.d&&o.guard.isNone&&o.after.all (λF=>!Region.binds .any F||G.getD F.on false)&&B.all (λH=>!(o.looksAt ops).contains H.d)|none=>false)&&fin.getD A.i false) &&
 ((List.range ops.size).all λD=>!fin.getD D false||G.getD D true||B.any (λA=>A.i==D)||match ops[D]? with|some oj=>B.all λA=>!(oj.looksAt ops).contains A.d&&oj.dst !=some A.d&&(match ops[A.i]? with|some o=>(match oj.dst with|some d=>!(o.looksAt ops).contains d|none=>true)|none=>true)|none=>true) &&
 decide (B.map C0.d).Nodup&&decide (B.map C0.i).Nodup
def AFs{B:List C0}{H:Array Bool}(h:bw ops fin H B=true):vN ops fin H B:=by
 simp only[bw,At,CJ] at h;obtain⟨⟨⟨h1,N⟩,O⟩,R⟩:=h;refine⟨λx hx=>?_,λx hx=>?_,λG b F W Y hne x hx=>?_,O,R⟩
 .have:=DS.1 h1 x hx;simp only[At] at this;obtain⟨this,_⟩:=this;split at this
  .rename_i o A;simp only[At,C7] at this;obtain⟨⟨⟨I,J⟩,K⟩,L⟩:=this;refine⟨o,A,I,by simpa using J,λM V T=>?_,λy hy=>?_⟩
   .have:=cL.1 K M V;rw[T] at this;exact E_
   .have:=DS.1 L y hy;exact E_
  .cases this
 .exact qr
 .have X:G<ops.size:=(E7.1 F).1;have h5:=DS.1 N G (RB.2 X);rw[W,Y,F] at h5;simp only[Tj,No,Ki] at h5;rcases h5 with h5|h5
  .exact rE
  .have:=DS.1 h5 x hx;simp only[At,Ni,E8,ne_eq] at this;refine⟨by simpa using this.1.1,this.1.2,λo A Z U=>?_⟩;have D:=this.2;rw[A,U] at D;simpa using D
def AFd(a:Act)(al:List C0):Ef a (al.map λx=>(x,none))=a:=by
 exact pr
def bt(A:List C0):EJ (A.map λx=>(x,none))=A.map C0.i:=by
 induction A with
 | nil=>rfl
 | cons x A B=>simp only[HA,bu,B]
def AFt(al:List C0):(al.map λx=>(x,(none:Option Nat))).map Prod.fst=al:=by
 exact qV
def AFc(al:List C0):(al.map λx=>(x,(none:Option Nat))).filterMap Prod.snd=[]:=by
 exact rM
def Z6{id:Nat}{a:Act}{w:AA}(S:List Nat)(A:List C0)(D J F G:List Nat)(fin I:Array Bool)(AE:P.follows .mixedOrders=true)(O:Region.noSelect l.toArray=true)
 (AC:F.length+A.length+J.length+G.length=l.toArray.size)(AD:(J.all λi=>decide (i<l.length))=true)(hlt:(F.all λi=>decide (i<l.length))=true)(RI:(G.all λi=>decide (i<l.length))=true)
 (y:Sg l.toArray fin=true)(g:bw l.toArray fin I A=true)
 (r:TJ l.toArray fin J (Array.replicate l.toArray.size false) I=true)
 (n:MO l.toArray fin D F (G4 I (A.map C0.i))=true)(u:Qg l.toArray D G fin=true)
 (z:(A.all λx=>decide (I.getD x.i true=false))=true)(q:de l.toArray (G4 I (A.map C0.i))=true)
 (V:∀c a (d:Tmp) v w,Q (.panic c) (Act.put a (some d) v) w->Q (.panic c) a w)(s:∀c a (d:Tmp) v w,Q (.panic c) a w->Q (.panic c) (Act.put a (some d) v) w)
 (t:∀k∈S,k<w.heap.size)
 (h:JT P l.toArray S w.drew (λK=>vM P l.toArray A K/\IE P l.toArray Q S (iO w A (λB H=>∃H9,EA P l.toArray Q H9 (marked l D G) B H)) (marked l D F) K w.drew) (picked l J) a):(Code.region id l.toArray true).wp P Q a w:=by
 refine Q8 AE ?_;have W:=Vh y;have j:=AFs g;have AG:=Me O;have AF:∀(R T:Act->Prop) (Z:∀a,R a->T a) (M:List Oper) (a:Act),JT P l.toArray S w.drew R M a->JT P l.toArray S w.drew T M a:=by
  intro R T Z M;induction M with
  | nil=>intro a h;exact Z a h
  | cons o M AH=>intro a h;simp only[JT] at h ⊢;exact xo (λB e=>AH B e) h
 have f:Is P l.toArray Q S fin (λB H=>∃H9,EA P l.toArray Q H9 (marked l D G) B H) (F.length+A.length+J.length) (Array.replicate l.toArray.size false) a w.drew:=by
  refine im W O V J _ a (UB _) (λi hi=>by simpa using DS.1 AD i hi) r (AF _ _ ?_ _ a h);intro K X AB;have N:=ik (E:=iO w A (λB H=>∃H9,EA P l.toArray Q H9 (marked l D G) B H)) D W O V F _ K w.drew (oZ q) ZA n X.2;have Y:=x4 (B:=w.heap.size) j W t AG s (F.length+A.length) F.length (A.map λx=>(x,none)) I K w.drew AB (λi hi=>hi) (λi hi=>hi) X.1 (by rw[bt];simp) (AFt A) ⟨λx b L=>by simp at L,by rw[AFc];exact List.nodup_nil⟩ AK
   (λi hi=>by
    rw[bt] at hi;obtain⟨x,L,rfl⟩:=Gr.1 hi;have:=DS.1 z x L;simpa only[CJ] using this)
   (λx b L=>by simp at L) (by rw[bt];exact N)
  rw[AFd] at Y;exact Y
 have N:=ib (m:=G.length) (λB H U=>by
  obtain⟨H9,U⟩:=U;have:=aB D O V G fin B H Uv u U;exact wpAny_of_held _ _ _ _ this) _ _ _ _ f
 rw[AC] at N;exact N
section
variable {o:Oper} {rest:List (Bool × Oper)} {a:Act} {w:AA}
def ADG{K:Act->Prop}{os:List Oper}(B:wpQuiet P ops (λD=>∃y:IC S w,D=y.x) (λA=>JT P ops S w K os A) [o] a):JT P ops S w K (o::os) a:=B
def pre_nil{K:Act->Prop}(A:K a):JT P ops S w K [] a:=A
def AAo(B:wpQuiet P ops (λD=>∃y:IC S w,D=y.x) (λA=>IE P ops Q S E rest A w) [o] a):IE P ops Q S E ((false,o)::rest) a w:=B
def Ol(hw:Region.wanted o (yielded ops a.tmps)=true)
 (h:∀w',Below w w w'->∀K:Act->AA->Prop,(∀B A,AP S w' A->IE P ops Q S E rest B A->K B A)->o.wp P a w' K Q):IE P ops Q S E ((true,o)::rest) a w:=by
 exact qk
def aq(B:∀A,Below w w A->E a A):IE P ops Q S E [] a w:=B
end
end
attribute [irreducible] EA IE JT
def b6{B:Nat}{x:C0}{s:List (C0 × Option Nat)}{w:AA}(A:s.map Prod.fst=[x])(G:EJ s=[])(H:J7 B s w):∃g,s=[(x,some g)]/\B<=g/\AG w g x.t x.z:=by
 match s,A with
 | [(_,none)],A=>simp[EJ] at G
 | [(y,some g)],A=>
  simp at A;subst A;obtain⟨D,_,F⟩:=H.blk y g AH;exact⟨g,rfl,D,F⟩
end
section
variable{l:List Oper}
section
variable {P:Program} {ops:Array Oper} {Q:Exit->Act->AA->Prop} {fin:Array Bool} {E:Act->AA->Prop} {S:List Nat}
def SV(P:Program)(ops:Array Oper)(Q:Exit->Act->AA->Prop)(S:List Nat)(fin:Array Bool)(E:Act->AA->Prop):Nat->Array Bool->Act->AA->Prop
 | 0,listed,a,w=>listed=fin/\E a w
 | fuel+1,listed,a,w=>Region.ready .any ops listed≠[]/\(∀A∈Region.ready .any ops listed,fin.getD A false=true)/\
  ∀A∈Region.ready .any ops listed,wpOp P ops Q A (λC B=>AP S w B/\SV P ops Q S fin E fuel (listed.setIfInBounds A true) C B) a w
def ic{m:Nat}(hE:∀a w,E a w->wpAny P .any ops Q m fin a w):∀(fuel:Nat) (A:Array Bool) (a:Act) (w:AA),SV P ops Q S fin E fuel A a w->wpAny P .any ops Q (fuel+m) A a w
 | 0,A,a,w,h=>by
  exact eM
 | fuel+1,A,a,w,h=>by
  refine Uf ?_;exact⟨λD=>absurd D h.1,λG F=>I9 (λB H C=>ic hE fuel _ B H C.2) (h.2.2 G F)⟩
def x5{i:Nat}{oi:Oper}{v:AB}(hW:J2 ops fin)(hi:ops[i]? = some oi)(hif:fin.getD i false=true)(cX:∀(j:Nat) (o:Oper) cs b,ops[j]? = some o->o.op≠.select cs b)
 (hQ:∀c a w,Q (.panic c) (a.put oi.dst v) w->Q (.panic c) a w):
 ∀(A:Nat) (listed:Array Bool) (a:Act) (w:AA),FY ops listed->
  (∀j oj,ops[j]? = some oj->j≠i->listed.getD j true=false->(∀e∈oj.after,Region.binds .any e=true->e.on≠i)->oi.apart ops oj=true)->
  i∈Region.ready .any ops listed->YieldsIf P ops (C_ S w) oi v a->
  SV P ops Q S fin E A (listed.setIfInBounds i true) (a.put oi.dst v) w->SV P ops Q S fin E (A+1) listed a w:=by
 intro A;induction A with
 | zero=>
  intro listed a w hc _ hr hy H;refine⟨λh=>KG,λj hj=>LN hW hc (Ge hr) hif hj,λj hj=>?_⟩;by_cases Dy:j=i
  .exact qS
  .exact YI
 | succ A ih=>
  intro listed a w hc hfree hr hy H;refine⟨λh=>KG,λj hj=>LN hW hc (Ge hr) hif hj,λj hj=>?_⟩;by_cases Dy:j=i
  .exact X4
  .exact tS
def Hs(P:Program)(ops:Array Oper)(Q:Exit->Act->AA->Prop)(S:List Nat)(E:Act->AA->Prop):List (Bool × Oper)->Act->AA->Prop
 | [],a,w=>E a w
 | (true,o)::rest,a,w=>if Region.wanted o (yielded ops a.tmps) then o.wp P a w (λA B=>AP S w B/\Hs P ops Q S E rest A B) Q else Hs P ops Q S E rest (a.put o.dst undef) w
 | (false,o)::rest,a,w=>wpQuiet P ops (C_ S w) (λA=>Hs P ops Q S E rest A w) [o] a
def ip(B:List Nat)(F:J2 l.toArray fin)(G:Region.noSelect l.toArray=true)(hQ:∀c a (d:Tmp) v w,Q (.panic c) (Act.put a (some d) v) w->Q (.panic c) a w):
 ∀(C:List Nat) (A:Array Bool) (a:Act) (w:AA),FY l.toArray A->(∀i∈C,i<l.length)->MO l.toArray fin B C A=true->Hs P l.toArray Q S E (marked l B C) a w->SV P l.toArray Q S fin E C.length A a w
 | [],A,a,w,_,_,hB,h=>⟨by simpa[MO] using hB,h⟩
 | i::rest,A,a,w,hc,hlt,hB,h=>by
  obtain⟨o,hi⟩:∃o,l[i]? = some o:=⟨_,BL (hlt i (D0 ..))⟩;have hi':l.toArray[i]? = some o:=KF;rw[TU l B i rest _ hi] at h;simp only[MO,At] at hB;obtain⟨⟨hif,DM⟩,H⟩:=hB;have ih:=λhi a' w'=>ip B F G hQ rest (A.setIfInBounds i true) a' w' (Gm hc hi) (λj hj=>hlt j (Dq _ hj)) H;by_cases D:B.contains i=true
  .rw[D] at h DM;simp only[CI,C7] at DM;have Hx:i∈Region.ready .any l.toArray A:=Gw;refine⟨Gw,λj hj=>?_,λj hj=>?_⟩
   .exact UL
   .obtain rfl:j=i:=OT;unfold wpOp;rw[hi'];simp only[Hs] at h;simp only;split
    .rename_i hw;rw[Ab hw] at h;exact .inl (PC vg h)
    .rename_i hw;rw[AU hw] at h;exact⟨AP.refl _ _,ih Hx _ w h⟩
  .rw[PA] at D;rw[D] at h DM;simp only[DW,DV,At,hi'] at DM;obtain⟨⟨hr,K⟩,L⟩:=DM;have Hx:i∈Region.ready .any l.toArray A:=Pz;simp only[Hs] at h;have M:qOp P l.toArray (C_ S w) i (λa'=>Hs P l.toArray Q S E (marked l B rest) a' w) a:=by
    exact Lo
   obtain⟨v,N,I⟩:=Le hi' M;have J:∀c a w,Q (.panic c) (Act.put a o.dst v) w->Q (.panic c) a w:=by
    exact Lt
   exact x5 F hi' hif (Me G) J _ A a w hc (O_ hi' K) Hx (OV L N) (ih Hx _ w I)
def Oq(ops:Array Oper):List Nat->Array Bool->Bool
 | [],listed=>(Region.ready .any ops listed).isEmpty
 | i::rest,listed=>Region.ready .any ops listed==[i]&&Oq ops rest (listed.setIfInBounds i true)
def JY(l:List Oper):List Nat->List Oper
 | []=>[]
 | i::rest=>match l[i]? with
  | some o=>o::JY l rest
  | none=>[]
def VR: ∀(B:List Nat) (A:Array Bool) (a:Act) (w:AA),(∀i∈B,i<l.length)->Oq l.toArray B A=true->wpList P l.toArray Q (JY l B) a w->wpAny P .any l.toArray Q B.length A a w
 | [],A,a,w,_,hB,h=>⟨by simpa[Oq] using hB,by simpa[JY,wpList] using h⟩
 | i::rest,A,a,w,hlt,hB,h=>by
  obtain⟨o,hi⟩:∃o,l[i]? = some o:=⟨_,BL (hlt i (D0 ..))⟩;have J:l.toArray[i]? = some o:=KF;simp only[Oq,At,C7] at hB;refine⟨λD=>(by rw[hB.1] at D;cases D),λH F=>?_⟩;obtain rfl:H=i:=by rw[hB.1] at F;simpa using F
  have G:=λC M=>VR rest (A.setIfInBounds H true) C M (λL K=>hlt L (Dq _ K)) hB.2;simp only[JY,hi,wpList] at h;unfold wpOp;rw[J];simp only;split
  .rename_i hw;rw[Ab hw] at h;exact h.imp (PC (λC N I=>G C N I)) id
  .rename_i hw;rw[AU hw] at h;exact G _ w h
def MB{id:Nat}{a:Act}{w:AA}(S D B A:List Nat)(fin:Array Bool)(R:P.follows .mixedOrders=true)(T:Region.noSelect l.toArray=true)
 (N:B.length+A.length=l.toArray.size)(O:(B.all λi=>decide (i<l.length))=true)(RI:(A.all λi=>decide (i<l.length))=true)
 (M:Sg l.toArray fin=true)(I:MO l.toArray fin D B (Array.replicate l.toArray.size false)=true)(L:Oq l.toArray A fin=true)
 (K:∀c a (d:Tmp) v w,Q (.panic c) (Act.put a (some d) v) w->Q (.panic c) a w)
 (h:Hs P l.toArray Q S (λC F=>wpList P l.toArray Q (JY l A) C F) (marked l D B) a w.drew):(Code.region id l.toArray true).wp P Q a w:=by
 refine Q8 R ?_;have H:=ip D (Vh M) T K B _ a w.drew (UB _) (λi hi=>by simpa using DS.1 O i hi) I h;have G:=ic (m:=A.length) (λC F J=>VR A fin C F Uv L J) _ _ _ _ H;rw[N] at G;exact G
section
variable {o:Oper} {rest:List (Bool × Oper)} {a:Act} {w:AA}
def AD7(B:wpQuiet P ops (λC=>∃y:IC S w,C=y.x) (λA=>Hs P ops Q S E rest A w) [o] a):Hs P ops Q S E ((false,o)::rest) a w:=B
def AD8(hw:Region.wanted o (yielded ops a.tmps)=true)
 (h:∀K:Act->AA->Prop,(∀B A,AP S w A->Hs P ops Q S E rest B A->K B A)->o.wp P a w K Q):Hs P ops Q S E ((true,o)::rest) a w:=by
 simp only[Hs,hw,CI];exact Rh
def KT(A:E a w):Hs P ops Q S E [] a w:=A
end
attribute [irreducible] Hs
def QF{o:Oper}{a:Act}{w:AA}{K:Act->AA->Prop}(s x:Operand)(t:TypeId)
 (Y:o.op=.call { callee:=.builtin .append,args:=#[s,x],argTypes:=#[t,t] })
 (C:Nat)(e:TypeId)(z:AB)(size F:Nat)(h:P.underlying t=some (.slice e))(V:(P.info? e).map (λi=>(i.zero,i.size,i.bytes))=some (some z,size,F))
 (q:z.cells.size=size)(g:0<size)
 (v:AB)(n:Nat)(G:List AB)(d:a.eval s=v)(Z:w.ownsRow C e size v n G)
 (D:Addr)(m c:Nat)(A:List AB)(k:a.eval x=.slice (some D) m c)(W:A.length=m*size)(X:∀j u,A[j]? = some u->w.cell? (D.add j)=some u)(I:∀u∈A,u.oneCell'=true)
 (N:n+m<=maxLen)(T:(n+m)*F<=140737488355328)(O:C<=w.heap.size)
 (H:∀v' B,B.ownsRow C e size v' (n+m) (G++A)->w.grownBy B v.ownBlock->(v'.ownBlock=v.ownBlock\/v'.ownBlock=some w.heap.size)->K (a.put o.dst v') B):o.wp P a w K Q:=by
 obtain⟨i,U,p,f,R⟩:=info_parts V;obtain⟨v',B,b,J,L,r,M⟩:=run_append_own_at (P:=P) w C t o.type e i z size F h U p f R q g v n G Z D m c A W X I N T O;unfold Oper.wp execOp;simp only[Y,resolve,invoke,builtin,Lf,Q_,Result.andThen_ok,List.map_toArray,HA,Q0,d,k,b];exact H v' B J L M
def iU{o:Oper}{a:Act}{w:AA}{K:Act->AA->Prop}{Q:Exit->Act->AA->Prop}(t e:TypeId)(x:Operand)(I:o.op=.buildSlice t 1 #[(0,x)])
 (cs:Array AB)(z:AB)(size C:Nat)(L:P.underlying t=some (.slice e))(H:(P.info? e).map (λi=>(i.zero,i.size,i.bytes))=some (some z,size,C))(J:0<size)(R:size<=1000)(F:cs.size=size)
 (M:a.eval x=.agg cs)(h:K (a.put o.dst (.slice w 1 1)) (w.alloc (.cells cs e))):o.wp P a w K Q:=by
 obtain⟨i,G,N,A,O⟩:=info_parts H;refine wp_buildSlice t e 1 #[(0,x)] I cs i z L G N (by rw[A];omega) (by rw[A];omega) ?_ h;have D:=Go.Great.fill_whole (s:=i.size) (by rw[A];exact J) [.agg cs] ((Array.range (1*i.size)).map (z.cells[· % z.cells.size]!)) (by intro T B;simp only[Aj,A',A_] at B;subst B;rw[A];exact F) AH;simp only[List.map_toArray,HA,Q0,M];simpa[Value.cells] using D
end
end
section
variable{l:List Oper}{T st:List Nat}
def AP.wide{S:List Nat}{a b:AA}(A:AP S a b)(B:∀k∈S,k∈T):AP T a b:=⟨A.os,A.tape,A.output,A.size,λk C E=>A.block k C (λD=>E (B k D))⟩
section
variable {P:Program} {ops:Array Oper} {Q:Exit->Act->AA->Prop} {S:List Nat} {K:Nat->List Nat}
def Oa(P:Program)(ops:Array Oper)(Q:Exit->Act->AA->Prop)(K:Nat->List Nat):Nat->Array Bool->Act->AA->Prop
 | 0,listed,a,w=>Region.ready .any ops listed=[]/\Q .normal a w
 | fuel+1,listed,a,w=>Region.ready .any ops listed≠[]/\∀A∈Region.ready .any ops listed,wpOp P ops Q A (λC B=>AP (K A) w B/\Oa P ops Q K fuel (listed.setIfInBounds A true) C B) a w
def ia:∀(A:Nat) (B:Array Bool) (a:Act) (w:AA),Oa P ops Q K A B a w->wpAny P .any ops Q A B a w
 | 0,_,_,_,h=>h
 | A+1,B,a,w,h=>⟨λE=>absurd E h.1,λG F=>I9 (λC H D=>ia A _ C H D.2) (h.2 G F)⟩
def xy{i:Nat}{C:Oper}{v:AB}(hi:ops[i]? = some C)(N:∀(j:Nat) (o:Oper) E D,ops[j]? = some o->o.op≠.select E D)
 (W:∀c a w,Q (.panic c) (a.put C.dst v) w->Q (.panic c) a w)(X:∀j A,ops[j]? = some A->(∀e∈A.after,Region.binds .any e=true->e.on≠i)->∀k∈K j,k∈T):
 ∀(F:Nat) (B:Array Bool) (a:Act) (w:AA),
  (∀j A,ops[j]? = some A->j≠i->B.getD j true=false->(∀e∈A.after,Region.binds .any e=true->e.on≠i)->C.apart ops A=true)->
  i∈Region.ready .any ops B->YieldsIf P ops (C_ T w) C v a->
  Oa P ops Q K F (B.setIfInBounds i true) (a.put C.dst v) w->Oa P ops Q K (F+1) B a w:=by
 intro F;induction F with
 | zero=>
  intro B a w _ hr hy H;refine⟨λh=>KG,λj hj=>?_⟩;by_cases Dy:j=i
  .exact X4
  .have h1:=ready_mono hj Dy;rw[H.1] at h1;cases h1
 | succ F g=>
  intro B a w J hr hy H;refine⟨λh=>KG,λj hj=>?_⟩;by_cases Dy:j=i
  .exact X4
  .have h1:=H.2 j Uw;obtain⟨L,A,I,hall⟩:=I7.1 hj;have M:∀e∈A.after,Region.binds .any e=true->e.on≠i:=λe he hb heq=>by
    exact US
   have R:=wpOp_putIf I (J j A I Dy L M) (λE D=>N i C E D hi) (λE D=>N j A E D I) W hy h1;have Y:∀k G,ops[k]? = some G->k≠i->(B.setIfInBounds j true).getD k true=false->
    (∀e∈G.after,Region.binds .any e=true->e.on≠i)->C.apart ops G=true:=λk G Z b hun d=>by
    refine J k G Z b ?_ d;by_cases hjk:j=k
    .subst hjk;exact L
    .exact Xx
   refine I9 (λO m h3=>⟨h3.2.1,g (B.setIfInBounds j true) O m Y Yn ?_ ?_⟩) R
   .exact h3.1.imp (λ⟨U,V⟩=>⟨U,λn f=>V n (C_.sub (h3.2.1.wide (X j A I M)) f)⟩) id
   .exact Xn
def nu(ops:Array Oper)(st:List Nat)(i:Nat):Bool:=st.all λB=>match ops[B]? with
 | some o=>o.after.any λA=>Region.binds .any A&&A.on==i
 | none=>true
def Jk(l:List Oper)(st A:List Nat)(i:Nat):Nat:=if st.contains i then 3 else if A.contains i then 2 else if nu l.toArray st i then 0 else 1
def Ql(l:List Oper)(st A:List Nat):List Nat->List (Nat × Oper)
 | []=>[]
 | i::rest=>match l[i]? with
  | some o=>(Jk l st A i,o)::Ql l st A rest
  | none=>[]
def EB(P:Program)(ops:Array Oper)(Q:Exit->Act->AA->Prop)(S:List Nat):List (Nat × Oper)->Act->AA->Prop
 | [],a,w=>Q .normal a w
 | (0,o)::rest,a,w=>wpQuiet P ops (C_ [] w) (λA=>EB P ops Q S rest A w) [o] a
 | (1,o)::rest,a,w=>wpQuiet P ops (C_ S w) (λA=>EB P ops Q S rest A w) [o] a
 | (2,o)::rest,a,w=>if Region.wanted o (yielded ops a.tmps) then o.wp P a w (λA B=>AP [] w B/\EB P ops Q S rest A B) Q else EB P ops Q S rest (a.put o.dst undef) w
 | (_+3,o)::rest,a,w=>if Region.wanted o (yielded ops a.tmps) then o.wp P a w (λA B=>AP S w B/\EB P ops Q S rest A B) Q else EB P ops Q S rest (a.put o.dst undef) w
def Qf(ops:Array Oper)(st A:List Nat):List Nat->Array Bool->Bool
 | [],listed=>(Region.ready .any ops listed).isEmpty
 | i::rest,listed=>
  (if st.contains i||A.contains i then Region.ready .any ops listed==[i]
   else (Region.ready .any ops listed).contains i&&Region.free .any ops listed i&&(match ops[i]? with|some o=>MM o.op|none=>false))&&Qf ops st A rest (listed.setIfInBounds i true)
def ij{rest:List (Nat × Oper)}{i n:Nat}{o:Oper}{A:Array Bool}{a:Act}{w:AA}(J:Region.noSelect l.toArray=true)(hQ:∀c a (d:Tmp) v w,Q (.panic c) (Act.put a (some d) v) w->Q (.panic c) a w)
 (hi':l.toArray[i]? = some o)(hr:(Region.ready .any l.toArray A).contains i=true)(F:Region.free .any l.toArray A i=true)(G:MM o.op=true)
 (E:∀j B,l.toArray[j]? = some B->(∀e∈B.after,Region.binds .any e=true->e.on≠i)->∀k∈(if st.contains j then S else []),k∈T)
 (h:wpQuiet P l.toArray (C_ T w) (λa'=>EB P l.toArray Q S rest a' w) [o] a)
 (M:∀a' w',EB P l.toArray Q S rest a' w'->Oa P l.toArray Q (λj=>if st.contains j then S else []) n (A.setIfInBounds i true) a' w'):
 Oa P l.toArray Q (λj=>if st.contains j then S else []) (n+1) A a w:=by
 have I:i∈Region.ready .any l.toArray A:=Pz;have H:qOp P l.toArray (C_ T w) i (λa'=>EB P l.toArray Q S rest a' w) a:=by
  exact Lo
 obtain⟨v,L,C⟩:=Le hi' H;have D:∀c a w,Q (.panic c) (Act.put a o.dst v) w->Q (.panic c) a w:=by
  exact Lt
 exact xy (T:=T) hi' (Me J) D E _ A a w (O_ hi' F) I (OV G L) (M _ w C)
def ii(st B:List Nat)(I:Region.noSelect l.toArray=true)(F:∀c a (d:Tmp) v w,Q (.panic c) (Act.put a (some d) v) w->Q (.panic c) a w):
 ∀(E:List Nat) (C:Array Bool) (a:Act) (w:AA),(∀i∈E,i<l.length)->Qf l.toArray st B E C=true->EB P l.toArray Q S (Ql l st B E) a w->Oa P l.toArray Q (λj=>if st.contains j then S else []) E.length C a w
 | [],C,a,w,_,hB,h=>⟨by simpa[Qf] using hB,h⟩
 | i::rest,C,a,w,hlt,hB,h=>by
  obtain⟨o,hi⟩:∃o,l[i]? = some o:=⟨_,BL (hlt i (D0 ..))⟩;have D:l.toArray[i]? = some o:=KF;simp only[Ql,hi] at h;simp only[Qf,At] at hB;obtain⟨DM,V⟩:=hB;have ih:=λa' b=>ii st B I F rest (C.setIfInBounds i true) a' b (λj hj=>hlt j (Dq _ hj)) V;by_cases hl:st.contains i=true
  .have A:Jk l st B i=3:=by unfold Jk;rw[Ab hl]
   rw[A] at h;rw[Ab (by rw[hl];rfl)] at DM;have DM:Region.ready .any l.toArray C=[i]:=by simpa using DM
   refine⟨Gw,λj hj=>?_⟩;obtain rfl:j=i:=OT;unfold wpOp;rw[D];simp only[EB] at h;simp only[hl,CI];exact sB
  .by_cases hc:B.contains i=true
   .have A:Jk l st B i=2:=by unfold Jk;rw[AU hl,Ab hc]
    rw[A] at h;rw[Ab (by rw[hc];simp)] at DM;have DM:Region.ready .any l.toArray C=[i]:=by simpa using DM
    refine⟨Gw,λj hj=>?_⟩;obtain rfl:j=i:=OT;unfold wpOp;rw[D];simp only[EB] at h;simp only[hl,DV,DW];exact sB
   .rw[AU (by simpa using ⟨ZS,ZT⟩)] at DM;simp only[At,D] at DM;obtain⟨⟨R,L⟩,O⟩:=DM;by_cases G:nu l.toArray st i=true
    .have A:Jk l st B i=0:=by unfold Jk;rw[AU hl,AU hc,Ab G]
     rw[A] at h;simp only[EB] at h;refine ij I F D R L O (T:=[]) (λj Z N M Y A=>?_) h ih;split at A
     .rename_i X;exfalso;have J:=DS.1 G j (by simpa using X);rw[N] at J;obtain⟨U,W,H⟩:=Array.any_eq_true'.1 J;rw[At] at H;exact M U W H.1 (by simpa using H.2)
     .exact A
    .have A:Jk l st B i=1:=by unfold Jk;rw[AU hl,AU hc,AU G]
     rw[A] at h;simp only[EB] at h;refine ij I F D R L O (T:=S) (λj Z N M Y A=>?_) h ih;split at A
     .exact A
     .cases A
def xk{id:Nat}{a:Act}{w:AA}(S st B A:List Nat)(L:P.follows .mixedOrders=true)(N:Region.noSelect l.toArray=true)
 (I:A.length=l.toArray.size)(J:(A.all λi=>decide (i<l.length))=true)(F:Qf l.toArray st B A (Array.replicate l.toArray.size false)=true)
 (G:∀c a (d:Tmp) v w,Q (.panic c) (Act.put a (some d) v) w->Q (.panic c) a w)(D:List (Nat × Oper))(M:Ql l st B A=D)
 (E:EB P l.toArray Q S D a w.drew):(Code.region id l.toArray true).wp P Q a w:=by
 subst M;refine Q8 L ?_;have C:=ia _ _ _ _ (ii st B N G A _ a w.drew (λi H=>by simpa using DS.1 J i H) F E);rw[I] at C;exact C
def TV(l:List Oper):List (Nat × Nat)->List (Nat × Oper)
 | []=>[]
 | (k,i)::rest=>match l[i]? with
  | some o=>(k,o)::TV l rest
  | none=>[]
def mD{A:List Nat}: ∀B:List (Nat × Nat),(B.all λp=>Jk l st A p.2==p.1)=true->Ql l st A (B.map (·.2))=TV l B
 | [],_=>rfl
 | (k,i)::rest,h=>by
  rw[Ju,At] at h;have C:Jk l st A i=k:=by simpa using h.1
  simp only[HA,Ql,TV];split
  .rw[C,mD rest h.2]
  .rfl
def OX{id:Nat}{a:Act}{w:AA}(S st B:List Nat)(A:List (Nat × Nat))(I:P.follows .mixedOrders=true)(J:Region.noSelect l.toArray=true)
 (G:A.length=l.toArray.size)(H:((A.map (·.2)).all λi=>decide (i<l.length))=true)(D:Qf l.toArray st B (A.map (·.2)) (Array.replicate l.toArray.size false)=true)(F:(A.all λp=>Jk l st B p.2==p.1)=true)
 (E:∀c a (d:Tmp) v w,Q (.panic c) (Act.put a (some d) v) w->Q (.panic c) a w)
 (C:EB P l.toArray Q S (TV l A) a w.drew):(Code.region id l.toArray true).wp P Q a w:=
 xk S st B (A.map (·.2)) I J (by rw[Lj,G]) H D E _ (mD A F) C
variable {o:Oper} {rest:List (Nat × Oper)} {a:Act} {w:AA}
def AFr(B:wpQuiet P ops (λC=>∃y:IC [] w,C=y.x) (λA=>EB P ops Q S rest A w) [o] a):EB P ops Q S ((0,o)::rest) a w:=B
def AFq(B:wpQuiet P ops (λC=>∃y:IC S w,C=y.x) (λA=>EB P ops Q S rest A w) [o] a):EB P ops Q S ((1,o)::rest) a w:=B
def WO(hw:Region.wanted o (yielded ops a.tmps)=true)
 (h:∀K:Act->AA->Prop,(∀B A,AP [] w A->EB P ops Q S rest B A->K B A)->o.wp P a w K Q):EB P ops Q S ((2,o)::rest) a w:=by
 simp only[EB,hw,CI];exact Rh
def Ow(hw:Region.wanted o (yielded ops a.tmps)=true)
 (h:∀K:Act->AA->Prop,(∀B A,AP S w A->EB P ops Q S rest B A->K B A)->o.wp P a w K Q):EB P ops Q S ((3,o)::rest) a w:=by
 simp only[EB,hw,CI];exact Rh
def LU(A:Q .normal a w):EB P ops Q S [] a w:=A
end
attribute [irreducible] EB
end
def AGU(y:Nat)(w:AA)(G:y<=3000):AI 367 #[y] w (BX (.bool (Jj y)) w):=by
 go_in;by_cases A:y%4=0
 .have E:(((y:Int)%4)==0)=true:=AM;by_cases B:y%100=0
  .have D:(((y:Int)%100) !=0)=false:=AM;by_cases C:y%400=0
   .have F:(((y:Int)%400)==0)=true:=AM;have A2:=O (show Jj y=true by simp[Jj,A,C]);exact Xq
   .have F:(((y:Int)%400)==0)=false:=AM;have A2:=O (show Jj y=false by simp[Jj,B,C]);exact Xq
  .have D:(((y:Int)%100) !=0)=true:=AM;have A2:=O (show Jj y=true by simp[Jj,A,B]);exact Xq
 .have E:(((y:Int)%4)==0)=false:=AM;have A2:=O (show Jj y=false by simp[Jj,A]);exact Xq
def mP(y:Nat)(b:Bool)(x:Int)(w:AA)(A:Jj y=b)(C:y<=3000)(B:x=(y:Int)):AI 367 #[x] w (BX (.bool b) w):=by
 subst B;subst A;exact AGU y w C
def b_(y m:Nat):28<=G6 y m/\G6 y m<=31:=by
 unfold G6;split
 .split<;>omega
 .split<;>omega
def mO(y m:Nat)(w:AA)(D:y<=3000)(G:m<=12):
 AI 340 #[y,m] w (BX (.int .i64 ((G6 y m:Nat):Int)) w):=by
 go_in;by_cases B:m=2
 .subst B;cases C:Jj y with
  | true=>
   have A:=O C;go_wp2_with (go_at_call 367;refine(mP y true _ _ A.o D rfl).mono ?_;rintro e w' ⟨rfl,rfl⟩)
   go_ret;exact⟨GZ (by simp[G6,A.o]),rfl⟩
  | false=>
   have A:=O C;go_wp2_with (go_at_call 367;refine(mP y false _ _ A.o D rfl).mono ?_;rintro e w' ⟨rfl,rfl⟩)
   go_ret;exact⟨GZ (by simp[G6,A.o]),rfl⟩
 .have F:((m:Int)==2)=false:=AM;have A:Hid (G6 y m=if m=4\/m=6\/m=9\/m=11 then 30 else 31):=by show _=_;unfold G6;rw[AU B]
  go_wp2;all_goals
   go_ret;refine⟨GZ ?_,rfl⟩;go_light;simp only[C7,Aw,ne_eq] at *;have E:=A.o;split at E<;>omega
def AGR(y m:Nat)(x z:Int)(w:AA)(C:y<=3000)(A:m<=12)(B:x=(y:Int))(D:z=(m:Int)):
 AI 340 #[x,z] w (BX (.int .i64 ((G6 y m:Nat):Int)) w):=by
 subst B;subst D;exact mO y m w C A
def jd(m:Nat):LH m<=31*m:=by
 induction m with
 | zero=>simp[LH]
 | succ m A=>have:=(b_ (1900+m / 12) (m%12+1)).2;simp only[LH];omega
def zV(m:Nat)(w:AA)(K:m<=3000):
 AI 341 #[m] w (BX (.int .i64 ((LH m:Nat):Int)) w):=by
 go_in;go_wp2;go_loop [3,4] (λE B=>∃A:Nat,A<=m/\E=.int .i64 ((LH A:Nat):Int)/\B=.int .i64 (A:Int)) (λ_ B=>m-(intOf B).toNat)
 case atStart=>exact⟨0,Az _,rfl,rfl⟩
 case round=>
  obtain⟨A,I,rfl,rfl⟩:=hrel;have F:=jd A;obtain⟨G,H⟩:=b_ (1900+A / 12) (A%12+1);have C:Hid (LH (A+1)=LH A+G6 (1900+A / 12) (A%12+1)):=rfl;by_cases J:A<m
  .go_wp2_with fail;go_call AGR (1900+A / 12) (A%12+1) _ _ _ U U U U as e w' ⟨rfl,rfl⟩;generalize G6 (1900+A / 12) (A%12+1)=L at *;go_wp2;go_round
   case rel=>exact⟨A+1,U,by rw[C.o];go_num,A7⟩
   case measure=>exact A5
  .have D:Hid (A=m):=gX;go_wp2;go_ret;exact⟨by rw[D.o];rfl,rfl⟩
def xY(n:Nat)(w:AA)(e:Ending)(A:AA):Prop:=e=.returned (.tuple #[n,true])/\w=A
def AIp(y m d n:Nat)(w:AA)(V:d<=1000)(h:dX y m d=some n):
 AI 294 #[y,m,d] w (xY n w):=by
 unfold dX at h;split at h
 .cases h
 .rename_i T;simp only[CW] at h;have N:1900<=y:=U;have P:y<=2099:=U;have Q:1<=m:=U;have D:m<=12:=U;have R:1<=d:=U;have S:d<=G6 y m:=U;have C:=b_ y m;have M:=jd ((y-1900)*12+m-1);obtain⟨K,L⟩:=C;have B:=O h;have I:Hid (G6 y m=G6 y m):=rfl;go_in;have E:=O (mO y m w U D);generalize G6 y m=W at *;go_wp2_with (go_at_call 340;refine E.o.mono ?_;rintro A H ⟨rfl,rfl⟩)
  have G:((y:Int)-1900)*12+(m:Int)-1=(((y-1900)*12+m-1:Nat):Int):=U;rw[G];go_call zV ((y-1900)*12+m-1) _ U as A H ⟨rfl,rfl⟩;generalize F:LH ((y-1900)*12+m-1)=st at *;have J:=O F;go_wp2;go_ret2;refine⟨?_,rfl⟩;have:=B.o;have A:(n:Int)=(st:Int)+(d:Int)-1:=U;rw[A];rfl
