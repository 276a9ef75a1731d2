import Derived.Test.YtcpcgpbohiineaaGreatDoorY08
namespace Go.Proofs.YtcpcgpbohiineaaGreatDoor
open Go.RowKit Go.Proofs.Tryz
set_option linter.all false
set_option maxRecDepth 100000
set_option maxHeartbeats 4000000
section
variable{l:List Oper}
section
variable {P:Program} {ops:Array Oper} {Q:Exit->Act->AA->Prop} {fin:Array Bool} {E:Act->AA->Prop} {B:Nat}
def wpAnyQ(P:Program)(ops:Array Oper)(Q:Exit->Act->AA->Prop)(B:Nat)(fin:Array Bool)(E:Act->AA->Prop):Nat->Array Bool->Act->AA->Prop
 | 0,listed,a,w=>listed=fin/\E a w
 | fuel+1,listed,a,w=>Region.ready .any ops listed≠[]/\(∀A∈Region.ready .any ops listed,fin.getD A false=true)/\
  ∀A∈Region.ready .any ops listed,wpOp P ops Q A (λD C=>Below B w C/\wpAnyQ P ops Q B fin E fuel (listed.setIfInBounds A true) D C) a w
def iZ{m:Nat}(hE:∀a w,E a w->wpAny P .any ops Q m fin a w):∀(fuel:Nat) (A:Array Bool) (a:Act) (w:AA),wpAnyQ P ops Q B fin E fuel A a w->wpAny P .any ops Q (fuel+m) A a w
 | 0,A,a,w,h=>by
  exact eM
 | fuel+1,A,a,w,h=>by
  refine Uf ?_;exact⟨λF=>absurd F h.1,λH G=>I9 (λC I D=>iZ hE fuel _ C I D.2) (h.2.2 H G)⟩
def wpAnyQ_first{i:Nat}{C:Oper}{v:AB}(hW:J2 ops fin)(L:ops[i]? = some C)(hif:fin.getD i false=true)(R:∀(j:Nat) (o:Oper) G F,ops[j]? = some o->o.op≠.select G F)
 (V:∀c a w,Q (.panic c) (a.put C.dst v) w->Q (.panic c) a w):
 ∀(I:Nat) (A:Array Bool) (a:Act) (w:AA),FY ops A->
  (∀j D,ops[j]? = some D->j≠i->A.getD j true=false->(∀e∈D.after,Region.binds .any e=true->e.on≠i)->C.apart ops D=true)->
  i∈Region.ready .any ops A->YieldsIf P ops (C9 B w) C v a->
  wpAnyQ P ops Q B fin E I (A.setIfInBounds i true) (a.put C.dst v) w->wpAnyQ P ops Q B fin E (I+1) A a w:=by
 intro I;induction I with
 | zero=>
  intro A a w hc _ hr K H;refine⟨λh=>KG,λj hj=>LN hW hc (Ge hr) hif hj,λj hj=>?_⟩;by_cases Dy:j=i
  .subst Dy;exact K.wpOp L (C9.self _ _) ⟨AN _ _,H.1,H.2⟩
  .exact YI
 | succ I f=>
  intro A a w hc N hr K H;refine⟨λh=>KG,λj hj=>LN hW hc (Ge hr) hif hj,λj hj=>?_⟩;by_cases Dy:j=i
  .subst Dy;exact K.wpOp L (C9.self _ _) ⟨AN _ _,H⟩
  .have h1:=H.2.2 j Uw;obtain⟨O,D,M,hall⟩:=I7.1 hj;have b:∀e∈D.after,Region.binds .any e=true->e.on≠i:=λe he hb heq=>by
    exact US
   have h2:=wpOp_putIf M (N j D M Dy O b) (λG F=>R i C G F L) (λG F=>R j D G F M) V K h1;have W:∀k J,ops[k]? = some J->k≠i->(A.setIfInBounds j true).getD k true=false->
    (∀e∈J.after,Region.binds .any e=true->e.on≠i)->C.apart ops J=true:=λk J X Y hun Z=>by
    refine N k J X Y ?_ Z;by_cases hjk:j=k
    .subst hjk;exact O
    .exact Xx
   refine I9 (λS g h3=>⟨h3.2.1,f (A.setIfInBounds j true) S g (Gm hc hj) W Yn ?_ ?_⟩) h2
   .exact h3.1.imp (λ⟨T,U⟩=>⟨T,λm d=>U m (C9.sub AK h3.2.1 d)⟩) id
   .exact Xn
def EG(P:Program)(ops:Array Oper)(Q:Exit->Act->AA->Prop)(B:Nat)(E:Act->AA->Prop):Ii->Act->AA->Prop
 | .nil,a,w=>E a w
 | .bad,_,_=>False
 | .q o r,a,w=>wpQuiet P ops (C9 B w) (λC=>EG P ops Q B E r C w) [o] a
 | .l o r,a,w=>if Region.wanted o (yielded ops a.tmps) then o.wp P a w (λC A=>Below B w A/\EG P ops Q B E r C A) Q else EG P ops Q B E r (a.put o.dst undef) w
 | .f o p r s,a,w=>
  (if Region.wanted o (yielded ops a.tmps) then o.wp P a w (λC A=>Below B w A/\EG P ops Q B E r C A) Q else EG P ops Q B E r (a.put o.dst undef) w)/\
  (if Region.wanted p (yielded ops a.tmps) then p.wp P a w (λC A=>Below B w A/\EG P ops Q B E s C A) Q else EG P ops Q B E s (a.put p.dst undef) w)
def Pl.HV(ops:Array Oper)(fin:Array Bool):Pl->Array Bool->Bool
 | .nil,listed=>listed==fin
 | .q i r,listed=>fin.getD i false&&((Region.ready .any ops listed).contains i&&Region.free .any ops listed i&&(match ops[i]? with|some o=>MM o.op|none=>false))&&r.HV ops fin (listed.setIfInBounds i true)
 | .l i r,listed=>fin.getD i false&&(Region.ready .any ops listed==[i])&&r.HV ops fin (listed.setIfInBounds i true)
 | .f i j r s,listed=>(fin.getD i false&&fin.getD j false)&&(Region.ready .any ops listed==[i,j])&&(r.HV ops fin (listed.setIfInBounds i true)&&s.HV ops fin (listed.setIfInBounds j true)&&r.len==s.len)
def Z_{i:Nat}{o:Oper}{A:Nat}{C:Array Bool}{a:Act}{w:AA}{r:Ii}(D:l.toArray[i]? = some o)
 (ih:∀a' w',EG P l.toArray Q B E r a' w'->wpAnyQ P l.toArray Q B fin E A (C.setIfInBounds i true) a' w')
 (h:if Region.wanted o (yielded l.toArray a.tmps) then o.wp P a w (λa' w'=>Below B w w'/\EG P l.toArray Q B E r a' w') Q else EG P l.toArray Q B E r (a.put o.dst undef) w):
 wpOp P l.toArray Q i (λa' w'=>Below B w w'/\wpAnyQ P l.toArray Q B fin E A (C.setIfInBounds i true) a' w') a w:=by
 unfold wpOp;rw[D];simp only;split
 .exact p8
 .rename_i hw;rw[AU hw] at h;exact⟨AN _ _,ih _ w h⟩
def xx(K:J2 l.toArray fin)(O:Region.noSelect l.toArray=true)(hQ:∀c a (d:Tmp) v w,Q (.panic c) (Act.put a (some d) v) w->Q (.panic c) a w):
 ∀(p:Pl) (A:Array Bool) (a:Act) (w:AA),FY l.toArray A->p.HV l.toArray fin A=true->EG P l.toArray Q B E (p.ops l) a w->wpAnyQ P l.toArray Q B fin E p.len A a w:=by
 intro p;induction p with
 | nil=>intro A a w hc C h;exact⟨by simpa[Pl.HV] using C,h⟩
 | q i r G=>
  intro A a w hc C h;simp only[Pl.HV,At] at C;obtain⟨⟨hif,⟨hr,L⟩,H⟩,F⟩:=C;cases ho:l[i]? with
  | none=>simp only[Pl.ops,ho] at h;exact h.elim
  | some o=>
   have hi':l.toArray[i]? = some o:=L9;have D:i∈Region.ready .any l.toArray A:=Pz;simp only[hi'] at H;simp only[Pl.ops,ho,EG] at h;have N:qOp P l.toArray (C9 B w) i (λa'=>EG P l.toArray Q B E (r.ops l) a' w) a:=by
    exact Lo
   obtain⟨v,R,I⟩:=Le hi' N;have J:∀c a w,Q (.panic c) (Act.put a o.dst v) w->Q (.panic c) a w:=by
    exact Lt
   exact wpAnyQ_first K hi' hif (Me O) J _ A a w hc (O_ hi' L) D (OV H R) (G _ _ w (Gm hc D) F I)
 | l i r G=>
  intro A a w hc C h;simp only[Pl.HV,At,C7] at C;obtain⟨⟨hif,DM⟩,F⟩:=C;have D:i∈Region.ready .any l.toArray A:=Gw;cases ho:l[i]? with
  | none=>simp only[Pl.ops,ho] at h;exact h.elim
  | some o=>
   have hi':l.toArray[i]? = some o:=L9;simp only[Pl.ops,ho] at h;refine⟨Gw,λj hj=>?_,λj hj=>?_⟩
   .exact UL
   .obtain rfl:j=i:=OT;exact Z_ hi' (λa' w' hh=>G _ a' w' (Gm hc D) F hh) h
 | f i j r s S mz=>
  intro A a w hc C h;simp only[Pl.HV,At,C7] at C;obtain⟨⟨⟨hif,PJ⟩,DM⟩,⟨F,nO⟩,hlen⟩:=C;have D:i∈Region.ready .any l.toArray A:=Gw;have nC:j∈Region.ready .any l.toArray A:=Gw;cases ho:l[i]? with
  | none=>simp only[Pl.ops,ho] at h;exact h.elim
  | some o=>
   cases hp:l[j]? with
   | none=>simp only[Pl.ops,ho,hp] at h;exact h.elim
   | some p=>
    have hi':l.toArray[i]? = some o:=L9;have M:l.toArray[j]? = some p:=P6;simp only[Pl.ops,ho,hp] at h;refine⟨Gw,λT hx=>?_,λT hx=>?_⟩
    .exact rn
    .rw[DM] at hx;simp only[Aj,A',A_] at hx;rcases hx with rfl|rfl
     .exact Z_ hi' (λa' w' hh=>S _ a' w' (Gm hc D) F hh) h.1
     .exact Z_ M vU h.2
def Z7{id:Nat}{a:Act}{w:AA}(p:Pl)(B:Nat)(A:List Nat)(fin:Array Bool)(N:P.follows .mixedOrders=true)(O:Region.noSelect l.toArray=true)
 (M:p.len+A.length=l.toArray.size)(RI:(A.all λi=>decide (i<l.length))=true)
 (L:Sg l.toArray fin=true)(H:p.HV l.toArray fin (Array.replicate l.toArray.size false)=true)(K:Oq l.toArray A fin=true)
 (J:∀c a (d:Tmp) v w,Q (.panic c) (Act.put a (some d) v) w->Q (.panic c) a w)
 (h:EG P l.toArray Q B (λC D=>wpList P l.toArray Q (JY l A) C D) (p.ops l) a w.drew):(Code.region id l.toArray true).wp P Q a w:=by
 refine Q8 N ?_;have G:=xx (Vh L) O J p _ a w.drew (UB _) H h;have F:=iZ (m:=A.length) (λC D I=>VR A fin C D Uv K I) _ _ _ _ G;rw[M] at F;exact F
section
variable {o p:Oper} {r s:Ii} {a:Act} {w:AA}
def AD9(C:wpQuiet P ops (λD=>∃y:Iq B w,D=y.x) (λA=>EG P ops Q B E r A w) [o] a):EG P ops Q B E (.q o r) a w:=C
def MN(hw:Region.wanted o (yielded ops a.tmps)=true)
 (h:∀K:Act->AA->Prop,(∀C A,Below B w A->EG P ops Q B E r C A->K C A)->o.wp P a w K Q):EG P ops Q B E (.l o r) a w:=by
 simp only[EG,hw,CI];exact Rh
def AD_(A:EG P ops Q B E (.l o r) a w)(C:EG P ops Q B E (.l p s) a w):EG P ops Q B E (.f o p r s) a w:=⟨A,C⟩
def WD(A:E a w):EG P ops Q B E .nil a w:=A
end
attribute [irreducible] EG
end
def FV(w:AA)(y:AB)(m:Nat)(F:List AB):Prop:=
 (y=.slice none 0 0/\m=0)\/∃A c,y=.slice (some A) m c/\∀C D,F[C]? = some D->w.cell? (A.add C)=some D
def Mo(b o j:Nat):(⟨b,o,none⟩:Addr).add j=⟨b,o+j,none⟩:=xC
section
variable {P:Program} {ops:Array Oper} {Q:Exit->Act->AA->Prop} {E:Act->AA->Prop} {B:Nat}
def OY{o:Oper}{a:Act}{w:AA}{K:Act->AA->Prop}(s x:Operand)(t:TypeId)(H:o.op=.call { callee:=.builtin .append,args:=#[s,x],argTypes:=#[t,t] })
 (C:Nat) (e:TypeId) (z:AB) (k I:Nat) (N:P.underlying t=some (.slice e)) (L:(P.info? e).map (λi=>(i.zero,i.size,i.bytes))=some (some z,k,I)) (f:z.cells.size=k) (X:0<k) (Z:I<=1000)
 (v:AB) (n:Nat) (G:List AB) (M:a.eval s=v) (hown:w.ownsRow C e k v n G) (y:AB) (m:Nat) (F:List AB) (O:a.eval x=y) (d:FV w y m F) (Y:F.length=m*k) (J:∀u∈F,u.oneCell'=true)
 (AG:n+m<=100000000) (T:C<=w.heap.size)
 (h:∀v' A,A.ownsRow C e k v' (n+m) (G++F)->Below C w A->w.grownBy A v.ownBlock->(v'.ownBlock=v.ownBlock\/v'.ownBlock=some w.heap.size)->K (a.put o.dst v') A):o.wp P a w K Q:=by
 have fin:∀v' A,A.ownsRow C e k v' (n+m) (G++F)->w.grownBy A v.ownBlock->(v'.ownBlock=v.ownBlock\/v'.ownBlock=some w.heap.size)->K (a.put o.dst v') A:=by
  intro v' A J D H;refine h v' A J ⟨D.os,D.tape,D.output,D.size,λg AH=>D.block g U ?_⟩ D H;rcases hown.2 with ⟨rfl,_⟩|⟨AE,AD,cur,rfl,D,_⟩
  .simp[Value.ownBlock]
  .simp[Value.ownBlock];omega
 rcases d with ⟨rfl,rfl⟩|⟨R,c,rfl,V⟩
 .have S:F=[]:=Jw U;subst S;obtain⟨i,W,AJ,AI,AF⟩:=info_parts L;have b:=run_append_owned_none (P:=P) (w:=w) C t o.type e i k N W v n G hown;unfold Oper.wp execOp;simp only[H,resolve,invoke,builtin,Lf,Q_,Result.andThen_ok,List.map_toArray,HA,Q0,M,O,b];exact fin v w iK ⟨rfl,rfl,rfl,Bh _,λ_ _ _=>rfl⟩ (.inl rfl)
 .exact QF s x t H C e z k I N L f X v n G M hown R m c F O Y V J Hr (by have:(n+m)*I<=(n+m)*1000:=Tm _ Z;omega) T (λv' A j q AC=>fin v' A j q AC)
def put_comm(a:Act){d e:Tmp}(A:d≠e)(x y:AB):(a.put (some d) x).put (some e) y=(a.put (some e) y).put (some d) x:=by
 unfold Act.put;simp only;rw[cN _ _ A]
def FV.below{w F:AA}{y:AB}{m:Nat}{G:List AB}{B:Nat}(A:FV w y m G)(I:Below w w F)(H:∀a n c,y=.slice (some a) n c->a.block<w.heap.size):FV F y m G:=by
 rcases A with A|⟨C,c,rfl,J⟩
 .exact .inl A
 .refine .inr ⟨C,c,rfl,λD L K=>?_⟩;have:=H _ _ _ rfl;rw[<-J D L K];exact I.cell (p:=C.add D) (by unfold Addr.add;split<;>exact this)
def bM{Y Z S:Oper}{r:Ii}{a:Act}{w:AA}(ts D:TypeId)(z:AB)(k J:Nat)(X:P.underlying ts=some (.slice D))(V:(P.info? D).map (λi=>(i.zero,i.size,i.bytes))=some (some z,k,J))(AF:z.cells.size=k)(W:0<k)(AU:k<=1000)(x:J<=1000)
 (b d:Operand)(F G AO:Tmp)(AP:Y.op=.call { callee:=.builtin .append,args:=#[.const AL,b],argTypes:=#[ts,ts] })(AS:Y.dst=some F)(AY:Y.guard=none)
 (AQ:Z.op=.buildSlice ts 1 #[(0,d)])(AT:Z.dst=some G)(AZ:Z.guard=none)
 (Ai:S.op=.call { callee:=.builtin .append,args:=#[.tmp F,.tmp G],argTypes:=#[ts,ts] })(An:S.dst=some AO)(At:S.guard=none)(AV:F≠G)(Aq:F<a.tmps.size)(Ar:G<a.tmps.size)
 (y:AB)(n:Nat)(L:List AB)(Au:a.eval b=y)(Av:∀v,(a.put (some G) v).eval b=y)(Ab:FV w y n L)(Ay:∀AM m c,y=.slice (some AM) m c->AM.block<w.heap.size)(Aa:L.length=n*k)(AW:∀u∈L,u.oneCell'=true)
 (cs:Array AB)(t:cs.size=k)(Am:∀u∈cs.toList,u.oneCell'=true)(Aw:a.eval d=.agg cs)(Ax:∀v,(a.put (some F) v).eval d=.agg cs)(q:B<=w.heap.size)(A1:n+1<=10000000)
 (h:∀Ae AJ A K,AJ.ownsRow w D k Ae (n+1) (L++cs.toList)->Below w w AJ->EG P ops Q B E r (((a.put (some F) A).put (some G) K).put (some AO) Ae) AJ) :
 EG P ops Q B E (.f Y Z (.l Z (.l S r)) (.l Y (.l S r))) a w:=by
 have A3:∀(o:Oper) (A6:Tmp->AB),o.guard=none->True:=λ_ _ _=>trivial;have Ag:∀(a:Act) A K,F<a.tmps.size->((a.put (some F) A).put (some G) K).eval (.tmp F)=A:=by
  intro a A K AE;rw[put_comm a AV];simp[Act.put,Act.eval,AE]
 have Ah:∀(a:Act) A K,G<a.tmps.size->((a.put (some F) A).put (some G) K).eval (.tmp G)=K:=by
  intro a A K AE;simp[Act.put,Act.eval,AE]
 have Ac:∀(A:AB) (T:Nat) (M:AA),M.ownsRow w D k A n L->AG M T D cs->A.ownBlock≠some T->Below w w M->w.heap.size<=M.heap.size->
  EG P ops Q B E (.l S r) ((a.put (some F) A).put (some G) (.slice T 1 1)) M:=by
  intro A T M AC Ao A2 Aj AX;refine MN (by simp[Region.wanted,At]) ?_;intro e H;refine QF (.tmp F) (.tmp G) ts Ai w D z k J X V AF W A n L (Ag _ _ _ Aq) AC ⟨T,0,none⟩ 1 1 cs.toList (Ah _ _ _ Ar) (by simp[t]) ?_ Am Hr (by have:(n+1)*J<=(n+1)*1000:=Tm _ x;omega) AX ?_
  .intro A5 u As;rw[Mo,DP,Ao.cell,<-Ng];exact As
  .intro A0 AI I C _;have Ak:Below w w AI:=by
    refine Aj.grown C AX (λAd AD=>?_);rcases AC.2 with ⟨rfl,_⟩|⟨j,g,cur,rfl,f,_⟩
    .simp[Value.ownBlock] at AD
    .simp[Value.ownBlock] at AD;omega
   have Al:Below B M AI:=by
    refine⟨C.os,C.tape,C.output,C.size,λAd AD=>C.block Ad U ?_⟩;rcases AC.2 with ⟨rfl,_⟩|⟨j,g,cur,rfl,f,_⟩
    .exact UJ
    .simp[Value.ownBlock];omega
   rw[An];exact H _ _ Al (h A0 AI A _ I Ak)
 refine AD_ ?_ ?_
 .refine MN (by simp[Region.wanted,AY]) ?_;intro e H;refine OY (.const AL) b ts AP w D z k J X V AF W x AL 0 [] rfl ⟨AH,.inl ⟨rfl,rfl⟩⟩ y n L Au Ab Aa AW U AK ?_;intro A N I C _ Az;rw[DP,Dg] at I;rw[AS];refine H _ _ (C.mono q) ?_;refine MN (by simp[Region.wanted,AZ]) ?_;intro e H;refine iU ts D d AQ cs z k J X V W AU t (Ax A) ?_;rw[AT];have R:Below N N (N.alloc (.cells cs D)):=(AN _ _).alloc AK _;refine H _ _ (R.mono (Ap q C.size)) ?_;refine Ac A N _ (I.alloc _) (AG.new _ _ _) ?_ (C.trans (R.mono C.size)) (by have:=C.size;simp;omega);intro O;rcases I.2 with ⟨rfl,_⟩|⟨j,g,cur,rfl,_,f,_⟩
  .simp[Value.ownBlock] at O
  .simp[Value.ownBlock] at O;subst O;have:=AG.lt (t:=D) (cs:=cur) f;omega
 .refine MN (by simp[Region.wanted,AZ]) ?_;intro e H;refine iU ts D d AQ cs z k J X V W AU t Aw ?_;rw[AT];have R:Below w w (w.alloc (.cells cs D)):=(AN _ _).alloc AK _;refine H _ _ (R.mono q) ?_;refine MN (by simp[Region.wanted,AY]) ?_;intro e H;have AR:=AG.new w D cs;have A4:(w.alloc (.cells cs D)).heap.size=w.heap.size+1:=AH;generalize w.alloc (.cells cs D)=N at *;refine OY (.const AL) b ts AP N D z k J X V AF W x AL 0 [] rfl ⟨AH,.inl ⟨rfl,rfl⟩⟩ y n L (Av _) (Ab.below (B:=0) R Ay) Aa AW U AK ?_;intro A Af I C _ Az;rw[DP,Dg] at I;rw[AS,put_comm a (Ne.symm AV)];refine H _ _ (C.mono U) ?_;refine Ac A w Af (F_ I U) (AR.below C AR.lt) ?_ (R.trans (C.mono U)) (by have:=C.size;omega);intro O;rcases I.2 with ⟨rfl,_⟩|⟨j,g,cur,rfl,f,_,_⟩
  .simp[Value.ownBlock] at O
  .simp[Value.ownBlock] at O;omega
end
end
section
variable{l:List Oper}
section
variable {P:Program} {ops:Array Oper} {Q:Exit->Act->AA->Prop} {fin:Array Bool} {E:Act->AA->Prop} {S:List Nat}
def OZ(P:Program)(ops:Array Oper)(Q:Exit->Act->AA->Prop)(S:List Nat)(fin:Array Bool)(E:Act->AA->Prop):Nat->Array Bool->Act->AA->Prop
 | 0,listed,a,w=>listed=fin/\E a w
 | fuel+1,listed,a,w=>Region.ready .any ops listed≠[]/\(∀A∈Region.ready .any ops listed,fin.getD A false=true)/\
  ∀A∈Region.ready .any ops listed,wpOp P ops Q A (λC B=>AP S w B/\OZ P ops Q S fin E fuel (listed.setIfInBounds A true) C B) a w
def iX{m:Nat}(hE:∀a w,E a w->wpAny P .any ops Q m fin a w):∀(fuel:Nat) (A:Array Bool) (a:Act) (w:AA),OZ P ops Q S fin E fuel A a w->wpAny P .any ops Q (fuel+m) A a w
 | 0,A,a,w,h=>by
  exact eM
 | fuel+1,A,a,w,h=>by
  refine Uf ?_;exact⟨λD=>absurd D h.1,λG F=>I9 (λB H C=>iX hE fuel _ B H C.2) (h.2.2 G F)⟩
def xu{i:Nat}{oi:Oper}{v:AB}(hW:J2 ops fin)(hi:ops[i]? = some oi)(hif:fin.getD i false=true)(cX:∀(j:Nat) (o:Oper) cs b,ops[j]? = some o->o.op≠.select cs b)
 (hQ:∀c a w,Q (.panic c) (a.put oi.dst v) w->Q (.panic c) a w):
 ∀(A:Nat) (listed:Array Bool) (a:Act) (w:AA),FY ops listed->
  (∀j oj,ops[j]? = some oj->j≠i->listed.getD j true=false->(∀e∈oj.after,Region.binds .any e=true->e.on≠i)->oi.apart ops oj=true)->
  i∈Region.ready .any ops listed->YieldsIf P ops (C_ S w) oi v a->
  OZ P ops Q S fin E A (listed.setIfInBounds i true) (a.put oi.dst v) w->OZ P ops Q S fin E (A+1) listed a w:=by
 intro A;induction A with
 | zero=>
  intro listed a w hc _ hr hy H;refine⟨λh=>KG,λj hj=>LN hW hc (Ge hr) hif hj,λj hj=>?_⟩;by_cases Dy:j=i
  .exact qS
  .exact YI
 | succ A ih=>
  intro listed a w hc hfree hr hy H;refine⟨λh=>KG,λj hj=>LN hW hc (Ge hr) hif hj,λj hj=>?_⟩;by_cases Dy:j=i
  .exact X4
  .exact tS
def Eo(P:Program)(ops:Array Oper)(Q:Exit->Act->AA->Prop)(S:List Nat)(E:Act->AA->Prop):Ii->Act->AA->Prop
 | .nil,a,w=>E a w
 | .bad,_,_=>False
 | .q o r,a,w=>wpQuiet P ops (C_ S w) (λB=>Eo P ops Q S E r B w) [o] a
 | .l o r,a,w=>if Region.wanted o (yielded ops a.tmps) then o.wp P a w (λB A=>AP S w A/\Eo P ops Q S E r B A) Q else Eo P ops Q S E r (a.put o.dst undef) w
 | .f o p r s,a,w=>
  (if Region.wanted o (yielded ops a.tmps) then o.wp P a w (λB A=>AP S w A/\Eo P ops Q S E r B A) Q else Eo P ops Q S E r (a.put o.dst undef) w)/\
  (if Region.wanted p (yielded ops a.tmps) then p.wp P a w (λB A=>AP S w A/\Eo P ops Q S E s B A) Q else Eo P ops Q S E s (a.put p.dst undef) w)
def Z8{i:Nat}{o:Oper}{A:Nat}{B:Array Bool}{a:Act}{w:AA}{r:Ii}(C:l.toArray[i]? = some o)
 (ih:∀a' w',Eo P l.toArray Q S E r a' w'->OZ P l.toArray Q S fin E A (B.setIfInBounds i true) a' w')
 (h:if Region.wanted o (yielded l.toArray a.tmps) then o.wp P a w (λa' w'=>AP S w w'/\Eo P l.toArray Q S E r a' w') Q else Eo P l.toArray Q S E r (a.put o.dst undef) w):
 wpOp P l.toArray Q i (λa' w'=>AP S w w'/\OZ P l.toArray Q S fin E A (B.setIfInBounds i true) a' w') a w:=by
 unfold wpOp;rw[C];simp only;split
 .exact p8
 .exact qJ
def xt(J:J2 l.toArray fin)(N:Region.noSelect l.toArray=true)(hQ:∀c a (d:Tmp) v w,Q (.panic c) (Act.put a (some d) v) w->Q (.panic c) a w):
 ∀(p:Pl) (A:Array Bool) (a:Act) (w:AA),FY l.toArray A->p.HV l.toArray fin A=true->Eo P l.toArray Q S E (p.ops l) a w->OZ P l.toArray Q S fin E p.len A a w:=by
 intro p;induction p with
 | nil=>intro A a w hc B h;exact⟨by simpa[Pl.HV] using B,h⟩
 | q i r F=>
  intro A a w hc B h;simp only[Pl.HV,At] at B;obtain⟨⟨hif,⟨hr,K⟩,G⟩,D⟩:=B;cases ho:l[i]? with
  | none=>simp only[Pl.ops,ho] at h;exact h.elim
  | some o=>
   have hi':l.toArray[i]? = some o:=L9;have C:i∈Region.ready .any l.toArray A:=Pz;simp only[hi'] at G;simp only[Pl.ops,ho,Eo] at h;have M:qOp P l.toArray (C_ S w) i (λa'=>Eo P l.toArray Q S E (r.ops l) a' w) a:=by
    exact Lo
   obtain⟨v,O,H⟩:=Le hi' M;have I:∀c a w,Q (.panic c) (Act.put a o.dst v) w->Q (.panic c) a w:=by
    exact Lt
   exact xu J hi' hif (Me N) I _ A a w hc (O_ hi' K) C (OV G O) (F _ _ w (Gm hc C) D H)
 | l i r F=>
  intro A a w hc B h;simp only[Pl.HV,At,C7] at B;obtain⟨⟨hif,DM⟩,D⟩:=B;have C:i∈Region.ready .any l.toArray A:=Gw;cases ho:l[i]? with
  | none=>simp only[Pl.ops,ho] at h;exact h.elim
  | some o=>
   have hi':l.toArray[i]? = some o:=L9;simp only[Pl.ops,ho] at h;refine⟨Gw,λj hj=>?_,λj hj=>?_⟩
   .exact UL
   .obtain rfl:j=i:=OT;exact Z8 hi' (λa' w' hh=>F _ a' w' (Gm hc C) D hh) h
 | f i j r s R mz=>
  intro A a w hc B h;simp only[Pl.HV,At,C7] at B;obtain⟨⟨⟨hif,PJ⟩,DM⟩,⟨D,nO⟩,hlen⟩:=B;have C:i∈Region.ready .any l.toArray A:=Gw;have nC:j∈Region.ready .any l.toArray A:=Gw;cases ho:l[i]? with
  | none=>simp only[Pl.ops,ho] at h;exact h.elim
  | some o=>
   cases hp:l[j]? with
   | none=>simp only[Pl.ops,ho,hp] at h;exact h.elim
   | some p=>
    have hi':l.toArray[i]? = some o:=L9;have L:l.toArray[j]? = some p:=P6;simp only[Pl.ops,ho,hp] at h;refine⟨Gw,λT hx=>?_,λT hx=>?_⟩
    .exact rn
    .rw[DM] at hx;simp only[Aj,A',A_] at hx;rcases hx with rfl|rfl
     .exact Z8 hi' (λa' w' hh=>R _ a' w' (Gm hc C) D hh) h.1
     .exact Z8 L vU h.2
def xj{id:Nat}{a:Act}{w:AA}(p:Pl)(S:List Nat)(A:List Nat)(fin:Array Bool)(M:P.follows .mixedOrders=true)(N:Region.noSelect l.toArray=true)
 (L:p.len+A.length=l.toArray.size)(RI:(A.all λi=>decide (i<l.length))=true)
 (K:Sg l.toArray fin=true)(G:p.HV l.toArray fin (Array.replicate l.toArray.size false)=true)(J:Oq l.toArray A fin=true)
 (I:∀c a (d:Tmp) v w,Q (.panic c) (Act.put a (some d) v) w->Q (.panic c) a w)
 (h:Eo P l.toArray Q S (λB C=>wpList P l.toArray Q (JY l A) B C) (p.ops l) a w.drew):(Code.region id l.toArray true).wp P Q a w:=by
 refine Q8 M ?_;have F:=xt (Vh K) N I p _ a w.drew (UB _) G h;have D:=iX (m:=A.length) (λB C H=>VR A fin B C Uv J H) _ _ _ _ F;rw[L] at D;exact D
section
variable {o p:Oper} {r s:Ii} {a:Act} {w:AA}
def ACv(B:wpQuiet P ops (λC=>∃y:IC S w,C=y.x) (λA=>Eo P ops Q S E r A w) [o] a):Eo P ops Q S E (.q o r) a w:=B
def V8(hw:Region.wanted o (yielded ops a.tmps)=true)
 (h:∀K:Act->AA->Prop,(∀B A,AP S w A->Eo P ops Q S E r B A->K B A)->o.wp P a w K Q):Eo P ops Q S E (.l o r) a w:=by
 simp only[Eo,hw,CI];exact Rh
def ACx(A:Eo P ops Q S E (.l o r) a w)(B:Eo P ops Q S E (.l p s) a w):Eo P ops Q S E (.f o p r s) a w:=⟨A,B⟩
def ACw(A:E a w):Eo P ops Q S E .nil a w:=A
end
attribute [irreducible] Eo
end
end
