/- Lemmas for Y28. -/
import Derived.Test.YtcpcgpbohiineaaGreatDoorRows
import Derived.Test.YtcpcgpbohiineaaGreatDoorY00
namespace Go.Proofs.YtcpcgpbohiineaaGreatDoor
open Go.RowKit Go.Proofs.Tryz
set_option linter.all false
set_option maxRecDepth 100000
set_option maxHeartbeats 4000000
section
variable{f:FuncId}{args:Array AB}{v:AB}
structure After(w:AA) where
 x:AA
 h:Below w w x
section
variable {P:Program} {w:AA}
instance:Nonempty (After w):=⟨⟨w,AN _ _⟩⟩
def After.cell(y:After w)(b o:Nat)(A:b<w.heap.size):y.x.cell? ⟨b,o,none⟩=w.cell? ⟨b,o,none⟩:=y.h.cell (p:=⟨b,o,none⟩) A
def After.frozen(y:After w)(b o:Nat)(A:b<w.heap.size):y.x.frozen? ⟨b,o,none⟩=w.frozen? ⟨b,o,none⟩:=y.h.frozen (p:=⟨b,o,none⟩) A
attribute [go_sem] After.cell After.frozen
def xm{id:Nat}{Q:Exit->Act->AA->Prop}{a:Act}{l:List Oper}(D:P.follows .mixedOrders=true)(C:Region.lexB .any l.toArray=true)
 (h:wpQuiet P l.toArray (λA=>∃y:After w,A=y.x) (λB=>∀A,(∃y:After w,A=y.x)->Q .normal B A) l a):(Code.region id l.toArray true).wp P Q a w:=
 wp_region_quiet (C:=λA=>∃y:After w,A=y.x) D C ⟨⟨_,(AN _ _).drew⟩,rfl⟩ Fq
def EN{y:After w}
 (A:Calls P f args y.x λe D=>e=.returned v/\y.x=D):Calls P f args y.x λe E=>e=.returned v/\∃z:After w,E=z.x:=
 A.mono λ_ _ ⟨B,C⟩=>⟨B,y,C.symm⟩
def Hh{y:After w}
 (A:Calls P f args y.x λe D=>e=.returned v/\Below y.x.heap.size y.x D):Calls P f args y.x λe E=>e=.returned v/\∃z:After w,E=z.x:=
 A.mono λ_ _ ⟨B,C⟩=>⟨B,⟨_,y.h.trans (C.mono y.h.size)⟩,rfl⟩
end
def D8{a b:Bool}(h:a=b):Ending.returned (.bool a)=.returned (.bool b):=R_
def GZ{k:IntKind}{a b:Int}(h:a=b):Ending.returned (.int k a)=.returned (.int k b):=R_
end
section
variable{g n base B:Nat}{t e:TypeId}{cs:Array AB}{a b w1:AA}{v:AB}{xs:List AB}{p:Addr}
def AW{w W:AA}(A:Below w w W)(C:Below W W w1):Below w w w1:=A.trans (C.mono A.size)
def Bn{A:AA->Prop}{w0:AA}(C:AA->Prop)(E:C w0)(D:∀W,C W->A W):A w0:=D w0 E
def Do{w:AA}(A:Below B a w)(n:Nat):Below B a (w.drewN n):=A.trans ⟨rfl,rfl,rfl,Bh _,λ_ _=>rfl⟩
def Ra{W:AA}(C:Below W W w1):(∀b o,b<W.heap.size->w1.cell? ⟨b,o,none⟩=W.cell? ⟨b,o,none⟩)/\(∀b o,b<W.heap.size->w1.frozen? ⟨b,o,none⟩=W.frozen? ⟨b,o,none⟩):=
 ⟨λb o A=>C.cell (p:=⟨b,o,none⟩) A,λb o A=>C.frozen (p:=⟨b,o,none⟩) A⟩
def AG(w:AA)(g:Nat)(t:TypeId)(cs:Array AB):Prop:=w.heap[g]? = some (.cells cs t (0,0))
def AG.lt{w:AA}(A:AG w g t cs):g<w.heap.size:=by
 rcases Fg g w with C|C
 .exact C
 .unfold AG at A;rw[Kl C] at A;cases A
def AG.cell{w:AA}(A:AG w g t cs)(i:Nat):w.cell? ⟨g,i,none⟩=cs[i]?:=cell_of_row w g i cs t (0,0) A
def AG.new(w:AA)(t:TypeId)(cs:Array AB):AG (w.alloc (.cells cs t)) w t cs:=Hf w _
def AG.grown{w C:AA}{row:Option Nat}(A:AG w g t cs)(D:w.grownBy C row)(E:some g≠row):AG C g t cs:=(D.block g A.lt E).trans A
def AG.below{w A:AA}(C:AG w g t cs)(D:Below B w A)(E:g<B):AG A g t cs:=(D.block g E).trans C
def AG.alloc{w:AA}(A:AG w g t cs)(o:Obj):AG (w.alloc o) g t cs:=(GI w o g A.lt).trans A
def AG.newAt(w:AA)(g:Nat)(t:TypeId)(cs:Array AB)(A:g=w.heap.size):AG (w.alloc (.cells cs t)) g t cs:=by subst A;exact AG.new w t cs
def AG.drew{w:AA}(A:AG w g t cs):AG w.drew g t cs:=A
def AG.drewN{w:AA}(A:AG w g t cs):AG (w.drewN n) g t cs:=A
def AG.put{w:AA}(A:AG w g t cs)(i:Nat)(u:AB):AG (w.setCell ⟨g,i,none⟩ u) g t (cs.setIfInBounds i u):=by
 unfold AG at A ⊢;simp[World.setCell,Array.getElem?_modify,A]
def AG.far{w:AA}(A:AG w g t cs)(C:g≠p.block)(u:AB):AG (w.setCell p u) g t cs:=(Lg w p u g C).trans A
def AG.frozen{w:AA}(A:AG w g t cs)(i:Nat):w.frozen? ⟨g,i,none⟩=false:=by
 unfold AG at A;simp[World.frozen?,A]
def AG.keep{w A:AA}(C:AG w g t cs)(D:A.heap[g]? = w.heap[g]?):AG A g t cs:=D.trans C
def AG.apart{w:AA}{size:Nat}(h:AG w g t cs)(G:w.ownsRow base e size v n xs)(F:e≠t):some g≠v.ownBlock:=by
 rcases G.2 with ⟨rfl,_⟩|⟨D,H,cur,rfl,_,A,_⟩
 .exact UJ
 .intro E;have C:g=D:=by simpa[Value.ownBlock] using E
  subst C;unfold AG at h;rw[h] at A;injection A with h1;injection h1 with _ h2;exact F h2.symm
def IQ{w:AA}{size:Nat}(E:w.ownsRow base e size v n xs){C:AA}(H:Below B w C)(G:∀g,v.ownBlock=some g->g<B):C.ownsRow base e size v n xs:=by
 obtain⟨F,A⟩:=E;refine⟨F,?_⟩;rcases A with A|⟨g,D,cur,rfl,I,J,rest⟩
 .exact .inl A
 .exact .inr ⟨g,D,cur,rfl,I,(H.block g (G g rfl)).trans J,rest⟩
structure AP(S:List Nat)(w w':AA):Prop where
 os:w'.os=w.os
 tape:w'.tape=w.tape
 output:w'.output=w.output
 size:w.heap.size<=w'.heap.size
 block:∀k,k<w.heap.size->k∉S->w'.heap[k]? = w.heap[k]?
def AP.refl(S:List Nat)(w:AA):AP S w w:=⟨rfl,rfl,rfl,Bh _,λ_ _ _=>rfl⟩
def AP.trans{S:List Nat}{c:AA}(A:AP S a b)(k:AP S b c):AP S a c:=
 ⟨k.os.trans A.os,k.tape.trans A.tape,k.output.trans A.output,Ap A.size k.size,λE C D=>(k.block E (Co C A.size) D).trans (A.block E C D)⟩
def AP.of_below{S:List Nat}{w C:AA}(A:Below w w C):AP S w C:=⟨A.os,A.tape,A.output,A.size,λE D _=>A.block E D⟩
def AP.HW{S:List Nat}{w C:AA}(A:w.grownBy C (some g))(D:g∈S):AP S w C:=⟨A.os,A.tape,A.output,A.size,λG E F=>A.block G E (λe=>by injection e with e;subst e;exact F D)⟩
def AP.below{S:List Nat}{w A:AA}(h:AP S w A)(E:B<=w.heap.size)(C:∀k∈S,B<=k):Below B w A:=⟨h.os,h.tape,h.output,h.size,λk F=>h.block k U (λD=>by have:=C k D;omega)⟩
def AG.kept{S:List Nat}{w C:AA}(A:AG w g t cs)(D:AP S w C)(E:g∉S):AG C g t cs:=(D.block g A.lt E).trans A
def AP.alloc{S:List Nat}(h:AP S a b)(o:Obj):AP S a (b.alloc o):=h.trans (AP.of_below C8)
def AP.setCell{S:List Nat}(h:AP S a b)(C:p.block∈S)(u:AB):AP S a (b.setCell p u):=
 h.trans ⟨rfl,rfl,rfl,AH,λD E A=>Lg b p u D (λe=>A (e▸C))⟩
def AP.drew{S:List Nat}(A:AP S a b):AP S a b.drew:=⟨A.os,A.tape,A.output,A.size,A.block⟩
def WF{S:List Nat}{w D:AA}{size:Nat}(F:w.ownsRow base e size v n xs)(J:AP S w D)(I:∀k,k∈S->some k≠v.ownBlock):D.ownsRow base e size v n xs:=by
 obtain⟨G,A⟩:=F;refine⟨G,?_⟩;rcases A with A|⟨g,E,cur,rfl,H,C,rest⟩
 .exact .inl A
 .exact .inr ⟨g,E,cur,rfl,H,(J.block g (E7.1 C).1 (λK=>I g K rfl)).trans C,rest⟩
def HU{w:AA}{size:Nat}(C:w.ownsRow base e size v n xs)(A:some g=v.ownBlock):g<w.heap.size:=by
 rcases C.2 with ⟨rfl,_⟩|⟨F,E,cur,rfl,_,D,_⟩
 .cases A
 .simp only[Value.ownBlock,CW] at A;subst A;exact(E7.1 D).1
def bX{w:AA}{size:Nat}(G:w.ownsRow base e size v n xs)(I:∃E D,w.heap[g]? = some (.map E D)):some g≠v.ownBlock:=by
 obtain⟨E,D,H⟩:=I;intro A;rcases G.2 with ⟨C,_⟩|⟨K,J,cur,C,_,F,_⟩
 .rw[C] at A;cases A
 .rw[C] at A;simp only[Value.ownBlock,CW] at A;subst A;rw[H] at F;cases F
def xr{P:Program}{ops:Array Oper}{rest:List Oper}{o:Oper}{a:Act}{Q:Exit->Act->AA->Prop}(F:o.guard=none)(s x:Operand)(ts A:TypeId)
 (K:o.op=.call { callee:=.builtin .append,args:=#[s,x],argTypes:=#[ts,ts] })(N:P.underlying ts=some (.slice A))(z:AB)(S:z.oneCell'=true)(D:Nat)(E:0<D/\D<=8)
 (I:(P.info? A).map (λi=>(i.zero,i.size,i.bytes))=some (some z,1,D))
 (base:Nat)(v:AB)(l:List AB)(wr:AA)(y:AB)(hy:y.oneCell'=true)(M:a.eval s=v)(hown:wr.ownsRow base A 1 v l.length l)(g:Nat)(O:a.eval x=.slice g 1 1)(G:g=wr.heap.size)
 (Y:l.length<=100000000)(X:base<=wr.heap.size)
 (h:∀v' C,C.ownsRow base A 1 v' (l++[y]).length (l++[y])->Below base wr C->wr.grownBy C v.ownBlock->wpList P ops Q rest (a.put o.dst v') C) :
 wpList P ops Q (o::rest) a (wr.alloc (.cells #[y] A)):=by
 subst G;obtain⟨W,H,R,V,T⟩:=info_parts I;refine I8 _ F s x ts K base A W z 1 D N H R V T (by cases z<;>first|rfl|(simp[Value.oneCell'] at S)) AD v l.length l M (hown.alloc _) ⟨wr,0,none⟩ 1 1 [y] O rfl
  (World.news_of_block (cs:=#[y]) (t:=A) (fr:=(0,0)) (Hf wr _)) Ip Hr (by have:=E.2;have:(l.length+1)*D<=(l.length+1)*8:=Tm _ E.2;omega) AM ?_
 intro v' C L hg _;have hg':wr.grownBy C v.ownBlock:=⟨hg.os,hg.tape,hg.output,Ap AH hg.size,λk hk J=>(hg.block k AM J).trans (GI wr _ k hk)⟩;refine h v' C ?_ ?_ hg'
 .rw[Cp];exact L
 .exact qx
end
section
variable{a b c d e f i j m:AB}
variable {w:AA} {g:Nat} {t:TypeId} {l:List AB}
def AG.y1(A:AG w g t (a::l).toArray):w.cell? ⟨g,0,none⟩=some a/\g<w.heap.size:=⟨A.cell 0,A.lt⟩
def AG.y2(A:AG w g t (a::b::l).toArray):w.cell? ⟨g,0,none⟩=some a/\w.cell? ⟨g,1,none⟩=some b/\g<w.heap.size:=⟨A.cell 0,A.cell 1,A.lt⟩
def AG.y3(A:AG w g t (a::b::c::l).toArray):w.cell? ⟨g,0,none⟩=some a/\w.cell? ⟨g,1,none⟩=some b/\w.cell? ⟨g,2,none⟩=some c/\g<w.heap.size:=⟨A.cell 0,A.cell 1,A.cell 2,A.lt⟩
def AG.y4(A:AG w g t (a::b::c::d::l).toArray):w.cell? ⟨g,0,none⟩=some a/\w.cell? ⟨g,1,none⟩=some b/\w.cell? ⟨g,2,none⟩=some c/\w.cell? ⟨g,3,none⟩=some d/\g<w.heap.size:=⟨A.cell 0,A.cell 1,A.cell 2,A.cell 3,A.lt⟩
def AG.DY(A:AG w g t (a::b::c::d::e::l).toArray):w.cell? ⟨g,0,none⟩=some a/\w.cell? ⟨g,1,none⟩=some b/\w.cell? ⟨g,2,none⟩=some c/\w.cell? ⟨g,3,none⟩=some d/\w.cell? ⟨g,4,none⟩=some e/\g<w.heap.size:=⟨A.cell 0,A.cell 1,A.cell 2,A.cell 3,A.cell 4,A.lt⟩
def AG.y6(A:AG w g t (a::b::c::d::e::f::l).toArray):w.cell? ⟨g,0,none⟩=some a/\w.cell? ⟨g,1,none⟩=some b/\w.cell? ⟨g,2,none⟩=some c/\w.cell? ⟨g,3,none⟩=some d/\w.cell? ⟨g,4,none⟩=some e/\w.cell? ⟨g,5,none⟩=some f/\g<w.heap.size:=⟨A.cell 0,A.cell 1,A.cell 2,A.cell 3,A.cell 4,A.cell 5,A.lt⟩
def AG.ST(A:AG w g t (a::b::c::d::e::f::i::l).toArray):w.cell? ⟨g,0,none⟩=some a/\w.cell? ⟨g,1,none⟩=some b/\w.cell? ⟨g,2,none⟩=some c/\w.cell? ⟨g,3,none⟩=some d/\w.cell? ⟨g,4,none⟩=some e/\w.cell? ⟨g,5,none⟩=some f/\w.cell? ⟨g,6,none⟩=some i/\g<w.heap.size:=⟨A.cell 0,A.cell 1,A.cell 2,A.cell 3,A.cell 4,A.cell 5,A.cell 6,A.lt⟩
def AG.BF(A:AG w g t (a::b::c::d::e::f::i::j::l).toArray):w.cell? ⟨g,0,none⟩=some a/\w.cell? ⟨g,1,none⟩=some b/\w.cell? ⟨g,2,none⟩=some c/\w.cell? ⟨g,3,none⟩=some d/\w.cell? ⟨g,4,none⟩=some e/\w.cell? ⟨g,5,none⟩=some f/\w.cell? ⟨g,6,none⟩=some i/\w.cell? ⟨g,7,none⟩=some j/\g<w.heap.size:=⟨A.cell 0,A.cell 1,A.cell 2,A.cell 3,A.cell 4,A.cell 5,A.cell 6,A.cell 7,A.lt⟩
def AG.g0(A:AG w g t (a::l).toArray):w.cell? ⟨g,0,none⟩=some a:=A.cell 0
def AG.g1(A:AG w g t (a::b::l).toArray):w.cell? ⟨g,1,none⟩=some b:=A.cell 1
def AG.g2(A:AG w g t (a::b::c::l).toArray):w.cell? ⟨g,2,none⟩=some c:=A.cell 2
def AG.g3(A:AG w g t (a::b::c::d::l).toArray):w.cell? ⟨g,3,none⟩=some d:=A.cell 3
def AG.g4(A:AG w g t (a::b::c::d::e::l).toArray):w.cell? ⟨g,4,none⟩=some e:=A.cell 4
def AG.g5(A:AG w g t (a::b::c::d::e::f::l).toArray):w.cell? ⟨g,5,none⟩=some f:=A.cell 5
def AG.g6(A:AG w g t (a::b::c::d::e::f::i::l).toArray):w.cell? ⟨g,6,none⟩=some i:=A.cell 6
def AG.g7(A:AG w g t (a::b::c::d::e::f::i::j::l).toArray):w.cell? ⟨g,7,none⟩=some j:=A.cell 7
def AG.g8(A:AG w g t (a::b::c::d::e::f::i::j::m::l).toArray):w.cell? ⟨g,8,none⟩=some m:=A.cell 8
def AG.g9{n:AB}(A:AG w g t (a::b::c::d::e::f::i::j::m::n::l).toArray):w.cell? ⟨g,9,none⟩=some n:=A.cell 9
def AG.fz{cs:Array AB}(A:AG w g t cs):w.frozen? ⟨g,0,none⟩=false/\w.frozen? ⟨g,1,none⟩=false/\w.frozen? ⟨g,2,none⟩=false/\w.frozen? ⟨g,3,none⟩=false/\w.frozen? ⟨g,4,none⟩=false/\w.frozen? ⟨g,5,none⟩=false/\w.frozen? ⟨g,6,none⟩=false/\w.frozen? ⟨g,7,none⟩=false:=⟨A.frozen 0,A.frozen 1,A.frozen 2,A.frozen 3,A.frozen 4,A.frozen 5,A.frozen 6,A.frozen 7⟩
end
section
variable{n:Next}{l:List Oper}
def Oo:Op->Bool
 | .nilCheck _ | .move _ | .assign _ | .pick .. | .build .. | .load .. | .binOp .. | .unOp .. | .convert .. | .slice .. | .fieldAddr .. | .field .. | .indexAddr .. | .index .. | .extract .. | .lookup ..=>true
 | .call c=>match c.callee with | .builtin .len=>true|_=>false
 | _=>false
section
variable {P:Program} {ops:Array Oper} {Q:Exit->Act->AA->Prop}
def aG{s:Sem AB}{w:AA}{E:AA}(A:(do pure (Next.value (<-s)):Sem Next).run P w=.ok n E):∃u,n=.value u:=by
 rw[Lf] at A;cases C:s.run P w with
 | ok D F=>rw[C] at A;simp[Result.andThen] at A;exact⟨D,A.1.symm⟩
 | halt D F=>rw[C] at A;simp[Result.andThen] at A
def lE{ρ:Operand->AB}{o:Oper}{w:AA}{M:AA}(C:Oo o.op=true)(h:(execOp ρ o).run P w=.ok n M):∃u,n=.value u:=by
 unfold execOp at h;cases L:o.op<;>rw[L] at h C<;>simp only[Oo] at C<;>try (cases C;done)
 case move E=>simp at h;exact⟨_,h.1.symm⟩
 case assign E=>simp at h;exact⟨_,h.1.symm⟩
 case nilCheck E=>
  have D:∀{a:Next} {A:AA},(runtimePanic .nilDeref:Sem Next).run P w=.ok a A->False:=by
   intro a A h;simp[runtimePanic,goPanic,program,Lf,Result.andThen,Sem.run] at h
  simp only at h;split at h
  .exact(D h).elim
  .exact(D h).elim
  .exact(D h).elim
  .split at h
   .exact(D h).elim
   .simp only[Lf] at h;cases G:(Sem.run P program w) with
    | halt J A=>rw[G] at h;simp[Result.andThen] at h
    | ok J A=>
     rw[G] at h;simp only[Result.andThen] at h;cases H:(Sem.run P (nilAhead (J.types.size+Made.depth) ‹TypeId› ‹AB› ‹String›) A) with
     | halt O N=>simp only[H] at h;cases h
     | ok O N=>
      simp only[H] at h;split at h
      .simp[unsupported,Sem.run,Result.andThen] at h
      .exact eE
   .exact eE
  .exact eE
 case pick c a F=>
  simp only[Lf] at h;cases I:(asBool (ρ c)).run P w with
  | ok E A=>rw[I] at h;simp[Result.andThen] at h;exact⟨_,h.1.symm⟩
  | halt E A=>rw[I] at h;simp[Result.andThen] at h
 case call c=>
  obtain⟨K,args,R⟩:=c;cases K with
  | builtin F=>
   cases F<;>simp only at C<;>try (cases C;done)
   simp only[resolve,invoke,Lf,Q_,Result.andThen] at h;unfold builtin at h;exact aG h
  | _=>simp at C
 all_goals exact aG h
structure Iq(B:Nat)(w:AA) where
 x:AA
 h:Below B w x
instance {B:Nat} {w:AA} : Nonempty (Iq B w):=⟨⟨w,AN _ _⟩⟩
def Iq.cell{B:Nat}{w:AA}(y:Iq B w)(b o:Nat)(A:b<B):y.x.cell? ⟨b,o,none⟩=w.cell? ⟨b,o,none⟩:=y.h.cell (p:=⟨b,o,none⟩) A
def Iq.frozen{B:Nat}{w:AA}(y:Iq B w)(b o:Nat)(A:b<B):y.x.frozen? ⟨b,o,none⟩=w.frozen? ⟨b,o,none⟩:=y.h.frozen (p:=⟨b,o,none⟩) A
attribute [go_sem] Iq.cell Iq.frozen
def C9(B:Nat)(w:AA):AA->Prop:=λA=>∃C:Iq B w,A=C.x
def C9.self(B:Nat)(w:AA):C9 B w w:=⟨⟨w,AN _ _⟩,rfl⟩
def C9.of{B:Nat}{w A:AA}(C:Below B w A):C9 B w A:=⟨⟨A,C⟩,rfl⟩
def C9.sub{B B':Nat}{w A x:AA}(E:B<=B')(D:Below B w A)(F:C9 B' A x):C9 B w x:=by
 obtain⟨C,rfl⟩:=F;exact⟨⟨C.x,D.trans (C.h.mono E)⟩,rfl⟩
def Z5{o:Oper}{v:AB}{a:Act}{B:Nat}{w:AA}(F:Oo o.op=true)(C:YieldsIn P ops (C9 B w) o v a):YieldsIf P ops (C9 B w) o v a:=by
 rcases C with ⟨hw,G⟩|C
 .refine .inl ⟨hw,λE H=>?_⟩;have A:=G E H;unfold Oper.quietAt at A;cases D:(execOp a.eval o).run P E with
  | ok n I=>
   obtain⟨J,rfl⟩:=lE F D;rw[D] at A;obtain⟨rfl,rfl⟩:=A;rfl
  | halt K I=>rw[D] at A;exact A.elim
 .exact .inr C
def aA{S H9:AA->Prop}(D:∀w,H9 w->S w):∀(A:Nat) (E:Array Bool) (a:Act) (w:AA),wpAnyH P .any ops Q H9 A E a w->wpAnyH P .any ops Q S A E a w
 | 0,_,_,_,h=>h
 | A+1,_,_,_,h=>⟨h.1,λH G=>I9 (λF I C=>⟨D _ C.1,aA D A _ F I C.2⟩) (h.2 H G)⟩
def Cu(P:Program)(ops:Array Oper)(Q:Exit->Act->AA->Prop):List (Bool × Oper)->Nat->Act->AA->Prop
 | [],_,a,w=>Q .normal a w
 | (true,o)::rest,B,a,w=>if Region.wanted o (yielded ops a.tmps) then o.wp P a w (λA D=>∃C,B<=C/\Below B w D/\Cu P ops Q rest C A D) Q else Cu P ops Q rest B (a.put o.dst undef) w
 | (false,o)::rest,B,a,w=>wpQuiet P ops (C9 B w) (λA=>Cu P ops Q rest B A w) [o] a
def Qh(ops:Array Oper)(A:List Nat):List Nat->Array Bool->Bool
 | [],listed=>(Region.ready .any ops listed).isEmpty
 | i::rest,listed=>
  (if A.contains i then Region.ready .any ops listed==[i]
   else (Region.ready .any ops listed).contains i&&Region.free .any ops listed i&&(match ops[i]? with|some o=>Oo o.op|none=>false))&&Qh ops A rest (listed.setIfInBounds i true)
def marked(l:List Oper)(A:List Nat):List Nat->List (Bool × Oper)
 | []=>[]
 | i::rest=>match l[i]? with
  | some o=>(A.contains i,o)::marked l A rest
  | none=>[]
def TU(l:List Oper)(A:List Nat)(i:Nat)(rest:List Nat)(o:Oper)(C:l[i]? = some o):marked l A (i::rest)=(A.contains i,o)::marked l A rest:=by
 simp[marked,C]
def aC(C:List Nat)(H:Region.noSelect l.toArray=true)(hQ:∀c a (d:Tmp) v w,Q (.panic c) (Act.put a (some d) v) w->Q (.panic c) a w):
 ∀(E:List Nat) (D:Array Bool) (B:Nat) (a:Act) (w:AA),(∀i∈E,i<l.length)->Qh l.toArray C E D=true->Cu P l.toArray Q (marked l C E) B a w->wpAnyH P .any l.toArray Q (C9 B w) E.length D a w
 | [],D,B,a,w,_,hB,h=>wpAnyH_done (by simpa[Qh] using hB) h _
 | i::rest,D,B,a,w,hlt,hB,h=>by
  obtain⟨o,hi⟩:∃o,l[i]? = some o:=⟨_,BL (hlt i (D0 ..))⟩;have hi':l.toArray[i]? = some o:=KF;rw[TU l C i rest _ hi] at h;simp only[Qh,At] at hB;obtain⟨A,I⟩:=hB;have ih:=λB' a' w'=>aC C H hQ rest (D.setIfInBounds i true) B' a' w' (λG hj=>hlt G (Dq _ hj)) I;by_cases F:C.contains i=true
  .rw[F] at h A;simp only[CI,C7] at A;refine wpAnyH_all A AH λG hj=>?_;obtain rfl:G=i:=P0;unfold wpOp;rw[hi'];simp only[Cu] at h;exact sr
  .rw[PA] at F;rw[F] at h A;simp only[DW,DV,At,hi'] at A;obtain⟨⟨O,L⟩,M⟩:=A;simp only[Cu] at h;have N:qOp P l.toArray (C9 B w) i (λa'=>Cu P l.toArray Q (marked l C rest) B a' w) a:=by
    exact Lo
   obtain⟨v,R,J⟩:=Le hi' N;have K:∀c a w,Q (.panic c) (Act.put a o.dst v) w->Q (.panic c) a w:=by
    exact Lt
   exact wpAnyH_take hi' H L O K (Z5 M R) (C9.self B w) (ih B _ w J)
def DB{id:Nat}{a:Act}{w:AA}(C A:List Nat)(B:Nat)(G:P.follows .mixedOrders=true)(H:Region.noSelect l.toArray=true)
 (F:A.length=l.toArray.size)(hlt:(A.all λi=>decide (i<l.length))=true)(D:Qh l.toArray C A (Array.replicate l.toArray.size false)=true)
 (E:∀c a (d:Tmp) v w,Q (.panic c) (Act.put a (some d) v) w->Q (.panic c) a w)
 (h:Cu P l.toArray Q (marked l C A) B a w.drew):(Code.region id l.toArray true).wp P Q a w:=by
 refine wp_region_held (S:=C9 B w.drew) G ?_;have:=aC C H E A (Array.replicate l.toArray.size false) B a w.drew ZA D h;rw[F] at this;exact D2
section
variable {B:Nat} {o:Oper} {rest:List (Bool × Oper)} {a:Act} {w:AA}
def Ov(C:wpQuiet P ops (λD=>∃y:Iq B w,D=y.x) (λA=>Cu P ops Q rest B A w) [o] a):Cu P ops Q ((false,o)::rest) B a w:=C
def mC(hw:Region.wanted o (yielded ops a.tmps)=false)(A:Cu P ops Q rest B (a.put o.dst undef) w):Cu P ops Q ((true,o)::rest) B a w:=by
 simp only[Cu,hw,DW,DV];exact A
def bv(hw:Region.wanted o (yielded ops a.tmps)=true)
 (D:∀K:Act->AA->Prop,(∀C A B',B<=B'->Below B w A->Cu P ops Q rest B' C A->K C A)->o.wp P a w K Q):Cu P ops Q ((true,o)::rest) B a w:=by
 simp only[Cu,hw,CI];exact D _ λ_ _ B' E F G=>⟨B',E,F,G⟩
def Dl(A:Q .normal a w):Cu P ops Q [] B a w:=A
end
end
end
section
variable{l:List Oper}
section
variable {P:Program} {ops:Array Oper} {Q:Exit->Act->AA->Prop} {fin:Array Bool} {E:Act->AA->Prop}
def MC(P:Program)(ops:Array Oper)(Q:Exit->Act->AA->Prop)(fin:Array Bool)(E:Act->AA->Prop):Nat->Array Bool->Act->AA->Prop
 | 0,listed,a,w=>listed=fin/\∀A,Below w w A->E a A
 | fuel+1,listed,a,w=>Region.ready .any ops listed≠[]/\(∀B∈Region.ready .any ops listed,fin.getD B false=true)/\
  ∀A,Below w w A->∀B∈Region.ready .any ops listed,wpOp P ops Q B (λD C=>Below A A C/\MC P ops Q fin E fuel (listed.setIfInBounds B true) D C) a A
def ig{fuel:Nat}{A:Array Bool}{a:Act}{w B:AA}(h:MC P ops Q fin E fuel A a w)(hb:Below w w B):MC P ops Q fin E fuel A a B:=by
 exact r_
def iY{m:Nat}(hE:∀a w,E a w->wpAny P .any ops Q m fin a w):∀(fuel:Nat) (A:Array Bool) (a:Act) (w:AA),MC P ops Q fin E fuel A a w->wpAny P .any ops Q (fuel+m) A a w
 | 0,A,a,w,h=>by
  exact p6
 | fuel+1,A,a,w,h=>by
  refine Uf ?_;exact⟨λD=>absurd D h.1,λG F=>I9 (λB H C=>iY hE fuel _ B H C.2) (h.2.2 w DL G F)⟩
def FY(ops:Array Oper)(C:Array Bool):Prop:=∀B o,ops[B]? = some o->C.getD B false=true->∀A∈o.after,Region.binds .any A=true->C.getD A.on false=true
def Gm{B:Array Bool}{i:Nat}(K:FY ops B)(M:i∈Region.ready .any ops B):FY ops (B.setIfInBounds i true):=by
 intro J o G I C F D;apply getD_set_true;by_cases H:i=J
 .subst H;obtain⟨_,N,A,L⟩:=I7.1 M;rw[G] at A;injection A with A;subst A;exact L C F D
 .rw[Nn false H] at I;exact K J o G I C F D
def de(ops:Array Oper)(C:Array Bool):Bool:=
 (List.range ops.size).all λB=>!C.getD B false||match ops[B]? with|some o=>o.after.all λA=>!Region.binds .any A||C.getD A.on false|none=>true
def oZ{F:Array Bool}(H:de ops F=true):FY ops F:=by
 intro D o C L G J I;have K:D<ops.size:=(E7.1 C).1;have A:=DS.1 H D (RB.2 K);rw[L,C] at A;simp only[Tj,No] at A;have B:=cL.1 A G J;rw[I] at B;simpa using B
def UB(n:Nat):FY ops (Array.replicate n false):=by
 intro C o D B;rcases Fg C n with A|A
 .simp[A] at B
 .simp[Kl (show(Array.replicate n false).size<=C by simpa using A)] at B
def Om(ops:Array Oper):Nat->Nat->Nat->Bool
 | 0,_,_=>false
 | n+1,j,i=>match ops[j]? with
  | some B=>B.after.any (λA=>Region.binds .any A&&A.on==i)||B.after.any (λA=>Region.binds .any A&&Om ops n A.on i)
  | none=>false
def bA{D:Array Bool}(F:FY ops D)(i:Nat):∀(n j:Nat),Om ops n j i=true->(∀B,ops[j]? = some B->∀e∈B.after,Region.binds .any e=true->D.getD e.on false=true)->D.getD i false=true
 | 0,_,h,_=>by cases h
 | n+1,j,h,hj=>by
  simp only[Om] at h;split at h
  .rename_i B G;rw[Ki] at h;rcases h with h|h
   .rw[Array.any_eq_true] at h;obtain⟨L,C,A⟩:=h;simp only[At,C7] at A;have:=hj B G _ (Array.getElem_mem C) A.1;rw[A.2] at this;exact D2
   .rw[Array.any_eq_true] at h;obtain⟨L,C,A⟩:=h;simp only[At] at A;have H:=hj B G _ (Array.getElem_mem C) A.1;exact bA F i n _ A.2 λo K e J I=>F _ o K H e J I
  .cases h
def UV(ops:Array Oper)(fin:Array Bool):Prop:=
 ∀(A:Nat) (C:Oper),ops[A]? = some C->fin.getD A false=false->∀B,fin.getD B false=true->Om ops 4 A B=true
def jX(ops:Array Oper)(fin:Array Bool):Bool:=
 (List.range ops.size).all λA=>fin.getD A false||match ops[A]? with
  | some _=>(List.range fin.size).all λB=>!fin.getD B false||Om ops 4 A B
  | none=>true
def zG(h:jX ops fin=true):UV ops fin:=by
 exact tY
def Ge{i:Nat}{B:Array Bool}(D:i∈Region.ready .any ops B):B.getD i false=false:=by
 have C:=(I7.1 D).1;rcases Fg i B.size with A | A
 .simp[A] at C ⊢;exact C
 .simp[Kl A]
def V9(B:UV ops fin){A:Array Bool}(C:FY ops A){i j:Nat}(F:A.getD i false=false)(G:fin.getD i false=true)(H:j∈Region.ready .any ops A):fin.getD j false=true:=by
 obtain⟨_,I,NY,hall⟩:=I7.1 H;cases D:fin.getD j false
 .have:=bA C i 4 j (B j I NY D i G) vh;rw[F] at this;cases this
 .rfl
def xv{i:Nat}{B:Oper}{v:AB}(N:UV ops fin)(O:ops[i]? = some B)(R:fin.getD i false=true)(Z:∀(j:Nat) (o:Oper) I H,ops[j]? = some o->o.op≠.select I H)
 (m:∀c a w,Q (.panic c) (a.put B.dst v) w->Q (.panic c) a w):
 ∀(J:Nat) (A:Array Bool) (a:Act) (w:AA),FY ops A->
  (∀j D,ops[j]? = some D->j≠i->A.getD j true=false->(∀e∈D.after,Region.binds .any e=true->e.on≠i)->B.apart ops D=true)->
  i∈Region.ready .any ops A->YieldsIf P ops (C9 w w) B v a->
  MC P ops Q fin E J (A.setIfInBounds i true) (a.put B.dst v) w->MC P ops Q fin E (J+1) A a w:=by
 intro J;induction J with
 | zero=>
  intro A a w K _ hr U F;refine⟨λh=>KG,λj hj=>V9 N K (Ge hr) R hj,λM C j hj=>?_⟩;by_cases Dy:j=i
  .subst Dy;exact U.wpOp O (C9.of C) ⟨AN _ _,F.1,λV x=>F.2 V (AW C x)⟩
  .have h1:=ready_mono hj Dy;rw[F.1] at h1;have G:=Ge h1;rw[V9 N K (Ge hr) R hj] at G;cases G
 | succ J y=>
  intro A a w K X hr U F;refine⟨λh=>KG,λj hj=>V9 N K (Ge hr) R hj,λM C j hj=>?_⟩;have b:YieldsIf P ops (C9 M M) B v a:=by
   refine U.imp (λ⟨h1,G⟩=>⟨h1,λW T=>G W (C9.sub C.size C T)⟩) id
  by_cases Dy:j=i
  .subst Dy;exact b.wpOp O (C9.self _ _) ⟨AN _ _,ig F C⟩
  .have h1:=F.2.2 M C j Uw;obtain⟨Y,D,S,hall⟩:=I7.1 hj;have u:∀e∈D.after,Region.binds .any e=true->e.on≠i:=λe he hb heq=>by
    exact US
   have G:=wpOp_putIf S (X j D S Dy Y u) (λI H=>Z i B I H O) (λI H=>Z j D I H S) m b h1;have n:∀k L,ops[k]? = some L->k≠i->(A.setIfInBounds j true).getD k true=false->
    (∀e∈L.after,Region.binds .any e=true->e.on≠i)->B.apart ops L=true:=λk L r s hun t=>by
    refine X k L r s ?_ t;by_cases hjk:j=k
    .subst hjk;exact Y
    .exact Xx
   refine I9 (λd V h3=>⟨h3.2.1,y (A.setIfInBounds j true) d V (Gm K hj) n Yn ?_ ?_⟩) G
   .exact h3.1.imp (λ⟨f,g⟩=>⟨f,λW T=>g W (C9.sub h3.2.1.size h3.2.1 T)⟩) id
   .exact Xn
def Ir(P:Program)(ops:Array Oper)(Q:Exit->Act->AA->Prop)(E:Act->AA->Prop):List (Bool × Oper)->Act->AA->Prop
 | [],a,w=>∀A,Below w w A->E a A
 | (true,o)::rest,a,w=>∀A,Below w w A->
  if Region.wanted o (yielded ops a.tmps) then o.wp P a A (λB C=>Below A A C/\Ir P ops Q E rest B C) Q else Ir P ops Q E rest (a.put o.dst undef) A
 | (false,o)::rest,a,w=>wpQuiet P ops (C9 w w) (λB=>Ir P ops Q E rest B w) [o] a
def TI(ops:Array Oper)(fin:Array Bool)(A:List Nat):List Nat->Array Bool->Bool
 | [],listed=>listed==fin
 | i::rest,listed=>fin.getD i false &&
  (if A.contains i then Region.ready .any ops listed==[i]
   else (Region.ready .any ops listed).contains i&&Region.free .any ops listed i&&(match ops[i]? with|some o=>Oo o.op|none=>false))&&TI ops fin A rest (listed.setIfInBounds i true)
def ie(B:List Nat)(F:UV l.toArray fin)(G:Region.noSelect l.toArray=true)(hQ:∀c a (d:Tmp) v w,Q (.panic c) (Act.put a (some d) v) w->Q (.panic c) a w):
 ∀(C:List Nat) (A:Array Bool) (a:Act) (w:AA),FY l.toArray A->(∀i∈C,i<l.length)->TI l.toArray fin B C A=true->Ir P l.toArray Q E (marked l B C) a w->MC P l.toArray Q fin E C.length A a w
 | [],A,a,w,_,_,hB,h=>⟨by simpa[TI] using hB,h⟩
 | i::rest,A,a,w,hc,hlt,hB,h=>by
  obtain⟨o,hi⟩:∃o,l[i]? = some o:=⟨_,BL (hlt i (D0 ..))⟩;have hi':l.toArray[i]? = some o:=KF;rw[TU l B i rest _ hi] at h;simp only[TI,At] at hB;obtain⟨⟨hif,DM⟩,H⟩:=hB;have ih:=λhi a' w'=>ie B F G hQ rest (A.setIfInBounds i true) a' w' (Gm hc hi) (λj hj=>hlt j (Dq _ hj)) H;by_cases D:B.contains i=true
  .rw[D] at h DM;simp only[CI,C7] at DM;have Hx:i∈Region.ready .any l.toArray A:=Gw;refine⟨Gw,λj hj=>?_,λw' N j hj=>?_⟩
   .exact UL
   .obtain rfl:j=i:=OT;unfold wpOp;rw[hi'];simp only[Ir] at h;have h1:=h w' N;simp only;split
    .exact qE
    .rename_i hw;rw[AU hw] at h1;exact⟨AN _ _,ih Hx _ w' h1⟩
  .rw[PA] at D;rw[D] at h DM;simp only[DW,DV,At,hi'] at DM;obtain⟨⟨hr,K⟩,L⟩:=DM;have Hx:i∈Region.ready .any l.toArray A:=Pz;simp only[Ir] at h;have M:qOp P l.toArray (C9 w w) i (λa'=>Ir P l.toArray Q E (marked l B rest) a' w) a:=by
    exact Lo
   obtain⟨v,O,I⟩:=Le hi' M;have J:∀c a w,Q (.panic c) (Act.put a o.dst v) w->Q (.panic c) a w:=by
    exact Lt
   exact xv F hi' hif (Me G) J _ A a w hc (O_ hi' K) Hx (Z5 L O) (ih Hx _ w I)
structure Cb where
 i:Nat
 d:Tmp
 t:TypeId
 z:Array AB
def ptrTo(b:Nat):AB:=.pointer b
def sets(a:Act):List (Cb × Option Nat)->Act
 | []=>a
 | (x,some b)::s=>(sets a s).put (some x.d) (ptrTo b)
 | (_,none)::s=>sets a s
def aa(a:Act)(x:Cb)(b:Nat)(B:List (Cb × Option Nat)):∀A:List (Cb × Option Nat),(∀y∈A,y.1.d≠x.d)->(sets a (A++(x,none)::B)).put (some x.d) (ptrTo b)=sets a (A++(x,some b)::B)
 | [],_=>rfl
 | (y,none)::A,h=>aa a x b B A λD C=>h D (Dq _ C)
 | (y,some c)::A,h=>by
  have hne:=h (y,some c) (D0 ..);simp only[DC,sets];rw[Act.put_comm _ _ _ vf,aa a x b B A λD C=>h D (Dq _ C)]
def NJ(a:Act)(A:Option Tmp)(u:AB):∀s:List (Cb × Option Nat),(∀y∈s,A≠some y.1.d)->(sets a s).put A u=sets (a.put A u) s
 | [],_=>rfl
 | (y,none)::s,h=>NJ a A u s λC B=>h C (Dq _ B)
 | (y,some c)::s,h=>by
  have hne:=h (y,some c) (D0 ..);simp only[sets];rw[Act.put_comm _ _ _ ve,NJ a A u s λC B=>h C (Dq _ B)]
def af(a:Act)(d:Deferred):∀s:List (Cb × Option Nat),({ sets a s with defers:=d::(sets a s).defers } : Act)=sets { a with defers:=d::a.defers } s
 | []=>rfl
 | (y,none)::s=>af a d s
 | (y,some c)::s=>by
  simp only[sets];rw[Act.put_defers,af a d s]
def ae(a:Act)(o:Oper)(hs:∀cs b,o.op≠.select cs b):∀s:List (Cb × Option Nat),(∀y∈s,y.1.d∉o.looksAt ops)->execOp (sets a s).eval o=execOp a.eval o/\Region.wanted o (yielded ops (sets a s).tmps)=Region.wanted o (yielded ops a.tmps)
 | [],_=>⟨rfl,rfl⟩
 | (y,none)::s,h=>ae a o hs s λB A=>h B (Dq _ A)
 | (y,some c)::s,h=>by
  have hne:=h (y,some c) (D0 ..);obtain⟨e1,e2⟩:=ae a o hs s λB A=>h B (Dq _ A);simp only[sets];exact rK
def Vn(B:∀c a (d:Tmp) v w,Q (.panic c) a w->Q (.panic c) (Act.put a (some d) v) w){c:_}{a:Act}{w:AA}(A:Q (.panic c) a w):∀s:List (Cb × Option Nat),Q (.panic c) (sets a s) w
 | []=>A
 | (y,none)::s=>Vn B A s
 | (y,some b)::s=>B _ _ _ _ _ (Vn B A s)
def xp{j:Nat}{B:Oper}(M:ops[j]? = some B)(R:∀cs b,B.op≠.select cs b)(s:List (Cb × Option Nat))(N:∀y∈s,y.1.d∉B.looksAt ops)(A:∀y∈s,B.dst≠some y.1.d)
 (I:∀c a (H:Tmp) v w,Q (.panic c) a w->Q (.panic c) (Act.put a (some H) v) w){K:Act->AA->Prop}{a:Act}{w:AA}(h:wpOp P ops Q j K a w):
 wpOp P ops Q j (λJ F=>∃G,J=sets G s/\K G F) (sets a s) w:=by
 obtain⟨he,hw⟩:=ae (ops:=ops) a B R s N;unfold wpOp at *;simp only[M] at *;rw[hw];split
 .rename_i D;simp only[D,CI] at h;rcases h with h|⟨hasks,O⟩;case inr=>exact .inr ⟨w_,O⟩
  refine .inl ?_;unfold Oper.wp at *;rw[he];generalize (execOp a.eval B).run P w=T at *;cases T with
  | ok S F=>
   cases S<;>simp only[Oper.upon] at h ⊢
   case value C=>exact⟨_,NJ a _ C s A,h⟩
   case skip=>exact⟨_,NJ a _ _ s A,h⟩
   case defer H=>exact⟨_,by rw[af];exact NJ _ _ _ s A,h⟩
   case enter W args=>
    refine Calls.mono h λL U he=>?_;cases L with
    | returned C=>exact⟨_,NJ a _ C s A,he⟩
    | panicked c=>exact Vn I he s
    | outgrown=>exact he
   case row row args=>exact Rows.mono h λC U he=>⟨_,NJ a _ C s A,he⟩
  | halt V F=>
   cases V<;>simp only[Oper.upon] at h ⊢
   case panic C=>exact Vn I h s
 .rename_i D;simp only[D] at h;exact⟨_,NJ a _ _ s A,h⟩
structure xd(P:Program)(ops:Array Oper)(fin:Array Bool)(al:List Cb):Prop where
 op:∀x∈al,∃o,ops[x.i]? = some o/\o.op=.alloc x.t/\o.dst=some x.d/\o.guard=none/\(∀e∈o.after,Region.binds .any e=false)
 run:∀x∈al,∀w,(Instr.alloc x.t true (.tuple #[])).run P w=.ok (ptrTo w) (w.alloc (.cells x.z x.t))
 pre:∀x∈al,fin.getD x.i false=true
 other:∀j oj,ops[j]? = some oj->fin.getD j false=true->(∀x∈al,x.i≠j)->∀x∈al,x.d∉oj.looksAt ops/\oj.dst≠some x.d
 slots:(al.map Cb.d).Nodup
 idx:(al.map Cb.i).Nodup
def pend(s:List (Cb × Option Nat)):List Nat:=s.filterMap λA=>match A.2 with|none=>some A.1.i|some _=>none
def bO(p:Cb × Option Nat)(s:List (Cb × Option Nat)):pend (p::s)=(match p.2 with|none=>p.1.i::pend s|some _=>pend s):=by
 obtain⟨A,o⟩:=p;cases o<;>simp[pend]
def lJ(s t:List (Cb × Option Nat)):pend (s++t)=pend s++pend t:=by simp[pend]
def G4(B:Array Bool)(l:List Nat):Array Bool:=l.foldl (λC A=>C.setIfInBounds A true) B
def b8(l:List Nat):∀(A:Array Bool) (j:Nat),G4 (A.setIfInBounds j true) l=(G4 A l).setIfInBounds j true:=by
 induction l with
 | nil=>intro _ _;rfl
 | cons B l D=>
  intro A j;show G4 ((A.setIfInBounds j true).setIfInBounds B true) l=(G4 (A.setIfInBounds B true) l).setIfInBounds j true;by_cases C:j=B
  .subst C;rw[D]
  .rw[cN _ _ C,D]
def mK(A B:List Nat)(j:Nat)(C:Array Bool):G4 (C.setIfInBounds j true) (A++B)=G4 C (A++j::B):=by
 show List.foldl _ _ _=List.foldl _ _ _;rw[RD,RD,Fh];show G4 (G4 _ A) B=G4 ((G4 C A).setIfInBounds j true) B;rw[b8]
def kV(l:List Nat):∀{C:Array Bool} {j:Nat},j∈Region.ready .any ops C->j∉l->j∈Region.ready .any ops (G4 C l):=by
 induction l with
 | nil=>intro _ _ A _;exact A
 | cons F l D=>
  intro C j A B;simp only[Aj,not_or] at B;exact D (ready_mono A B.1) B.2
structure Made(B:Nat)(s:List (Cb × Option Nat))(w:AA):Prop where
 blk:∀x b,(x,some b)∈s->B<=b/\b<w.heap.size/\AG w b x.t x.z
 nodup:(s.filterMap Prod.snd).Nodup
def Made.rely{B:Nat}{s:List (Cb × Option Nat)}{w H:AA}(A:Made B s w)(G:Below w w H):Made B s H:=
 ⟨λF C D=>⟨(A.blk F C D).1,Co (A.blk F C D).2.1 G.size,(A.blk F C D).2.2.below G (A.blk F C D).2.1⟩,A.nodup⟩
def Made.make{B:Nat}{s1 s2:List (Cb × Option Nat)}{x:Cb}{w:AA}(h:Made B (s1++(x,none)::s2) w)(hB:B<=w.heap.size):Made B (s1++(x,(some w.heap.size:Option Nat))::s2) (w.alloc (.cells x.z x.t)):=by
 exact uC
def iP(B:Nat)(C:List Cb)(E:Act->AA->Prop)(a:Act)(w:AA):Prop:=
 ∀A:List (Cb × Option Nat),A.map Prod.fst=C->pend A=[]->Made B A w->E (sets a A) w
def xw{C:List Cb}{B:Nat}(D:xd P ops fin C)(n:UV ops fin)(AB:∀(j:Nat) (o:Oper) R b,ops[j]? = some o->o.op≠.select R b)
 (g:∀c a (d:Tmp) v w,Q (.panic c) a w->Q (.panic c) (Act.put a (some d) v) w):
 ∀(m fuel:Nat) (s:List (Cb × Option Nat)) (listed:Array Bool) (a:Act) (w:AA),FY ops listed->m=fuel+(pend s).length->s.map Prod.fst=C->Made B s w->B<=w.heap.size->
  (∀i∈pend s,listed.getD i true=false)->(∀x b,(x,some b)∈s->listed.getD x.i true=true)->
  MC P ops Q fin (iP B C E) fuel (G4 listed (pend s)) a w->MC P ops Q fin E m listed (sets a s) w:=by
 intro m;induction m with
 | zero=>
  intro fuel s listed a w N hm hs M hB hun PM H;have hp:pend s=[]:=Jw U;have r:fuel=0:=U;subst r;rw[hp] at H;exact⟨H.1,λI hw'=>H.2 I hw' s hs hp (M.rely hw')⟩
 | succ m Y=>
  intro fuel s listed a w N hm hs M hB hun PM H;have key:Region.ready .any ops listed≠[]/\∀i∈Region.ready .any ops listed,fin.getD i false=true:=by
   rcases hp:pend s with _|⟨i,AF⟩
   .exact qa
   .have hi:i∈pend s:=wm;have u:=hun i hi;obtain⟨⟨x,o⟩,hx,ho⟩:=PB.1 hi;rcases o with _|o
    .simp only[CW] at ho;subst ho;have J:x∈C:=Zu;obtain⟨V,h1,K,L,W,X⟩:=D.op x J;have T:x.i∈Region.ready .any ops listed:=I7.2 ⟨u,V,h1,λf q hb=>by rw[X f q] at hb;cases hb⟩;exact⟨(λh=>by rw[h] at T;cases T),λj F=>V9 n N (Ge T) (D.pre x J) F⟩
    .cases ho
  refine⟨key.1,key.2,λI hw' j F=>?_⟩;obtain⟨Na,Z,S,_⟩:=I7.1 F;by_cases PI:j∈pend s
  .obtain⟨⟨x,o⟩,hx,ho⟩:=PB.1 PI;rcases o with _|o
   .simp only[CW] at ho;subst ho;have J:x∈C:=Zu;obtain⟨V,h1,K,L,W,X⟩:=D.op x J;obtain⟨A,G,rfl⟩:=List.append_of_mem hx;have O:=D.slots;have Mc:=D.idx;rw[<-hs] at O Mc;simp only[Li,HA,List.map_map] at O Mc;rw[Wj] at O Mc;have z:∀y∈A,y.1.d≠x.d:=λy hy=>O.2.2 _ (Gr.2 ⟨y,hy,rfl⟩) _ (D0 ..);have hp:pend (A++(x,none)::G)=pend A++x.i::pend G:=by rw[lJ,bO]
    have hp':pend (A++(x,(some I.heap.size:Option Nat))::G)=pend A++pend G:=by rw[lJ,bO]
    unfold wpOp;rw[h1];have AC:Region.wanted V (yielded ops (sets a (A++(x,none)::G)).tmps)=true:=by simp[Region.wanted,W]
    simp only[AC,CI];refine .inl ?_;unfold Oper.wp execOp;simp only[K,Lf,D.run x J I,Result.andThen_ok,Q_,Oper.upon,L];refine⟨(AN _ _).alloc AK _,?_⟩;rw[aa a x I G A z];have cZ:x.i∉(A.map λy=>y.1.i)/\x.i∉(G.map λy=>y.1.i):=by
     exact rv
    have cY:∀(t:List (Cb × Option Nat)) i,i∈pend t->i∈t.map λy=>y.1.i:=by
     exact sM
    refine Y fuel _ _ a _ (Gm N F) ?_ ?_ ((M.rely hw').make (Ap hB hw'.size)) vc ?_ ?_ ?_
    .rw[hp] at hm;rw[hp'];simp at hm ⊢;omega
    .rw[<-hs];simp
    .exact sO
    .exact tN
    .rw[hp',mK,<-hp];exact ig H (AW hw' C8)
   .cases ho
  .have Wv:∀x∈C,x.i≠j:=by
    exact sY
   have PJ:=key.2 j F;have Ww:=kV (pend s) F PI;rcases fuel with _|fuel
   .exact pj
   .have h1:=H.2.2 I hw' j Ww;have ho:=D.other j Z S PJ Wv;have hsa:∀y∈s,y.1∈C:=λy hy=>iA;have K:=xp S (λR b=>AB j Z R b S) s (λy hy=>(ho y.1 (hsa y hy)).1) (λy hy=>(ho y.1 (hsa y hy)).2) g h1;refine I9 (λAE AD L=>?_) K;obtain⟨e,rfl,hb,k⟩:=L;refine⟨hb,Y fuel s _ e AD (Gm N F) U hs (M.rely (AW hw' hb)) vb (λi hi=>?_) (λy b hy=>?_) ?_⟩
    .exact qM
    .exact qR
    .rw[b8];exact k
def eC(ops:Array Oper)(fin:Array Bool)(B:List Cb):Bool:=
 (B.all λA=>(match ops[A.i]? with|some o=>(match o.op with | .alloc t=>t==A.t|_=>false)&&o.dst==some A.d&&o.guard.isNone&&o.after.all (λD=>!Region.binds .any D)|none=>false)&&fin.getD A.i false) &&
 ((List.range ops.size).all λC=>!fin.getD C false||B.any (λA=>A.i==C)||match ops[C]? with|some oj=>B.all λA=>!(oj.looksAt ops).contains A.d&&oj.dst !=some A.d|none=>true) &&
 decide (B.map Cb.d).Nodup&&decide (B.map Cb.i).Nodup
def AK_{B:List Cb}(h:eC ops fin B=true)(S:∀x∈B,∀w,(Instr.alloc x.t true (.tuple #[])).run P w=.ok (ptrTo w) (w.alloc (.cells x.z x.t))):xd P ops fin B:=by
 simp only[eC,At,CJ] at h;obtain⟨⟨⟨h1,J⟩,K⟩,L⟩:=h;refine⟨λx hx=>?_,S,λx hx=>?_,λD U C N hne x hx=>?_,K,L⟩
 .have:=DS.1 h1 x hx;simp only[At] at this;obtain⟨this,_⟩:=this;split at this
  .rename_i o R;simp only[At,C7] at this;obtain⟨⟨⟨A,F⟩,G⟩,H⟩:=this;refine⟨o,R,?_,F,by simpa using G,λI M=>?_⟩
   .split at A
    .rename_i V T;rw[T];simp only[C7] at A;rw[A]
    .cases A
   .have:=cL.1 H I M;exact E_
  .cases this
 .exact qr
 .have O:D<ops.size:=(E7.1 C).1;have h5:=DS.1 J D (RB.2 O);rw[N,C] at h5;simp only[Tj,No,Ki] at h5;rcases h5 with h5|h5
  .exact rE
  .have:=DS.1 h5 x hx;simp only[At,Ni,E8,ne_eq] at this;exact⟨by simpa using this.1,this.2⟩
def z7(a:Act)(al:List Cb):sets a (al.map λx=>(x,none))=a:=by
 exact pr
def bN(A:List Cb):pend (A.map λx=>(x,none))=A.map Cb.i:=by
 induction A with
 | nil=>rfl
 | cons x A B=>simp only[HA,bO,B]
def AHj(al:List Cb):(al.map λx=>(x,(none:Option Nat))).map Prod.fst=al:=by
 exact qV
def zh(al:List Cb):(al.map λx=>(x,(none:Option Nat))).filterMap Prod.snd=[]:=by
 exact rM
def OW{id:Nat}{a:Act}{w:AA}(A:List Cb)(B C D:List Nat)(fin:Array Bool)(e:P.follows .mixedOrders=true)(I:Region.noSelect l.toArray=true)
 (b:C.length+A.length+D.length=l.toArray.size)(hlt:(C.all λi=>decide (i<l.length))=true)(RI:(D.all λi=>decide (i<l.length))=true)
 (Y:jX l.toArray fin=true)(R:eC l.toArray fin A=true)
 (T:TI l.toArray fin B C (G4 (Array.replicate l.toArray.size false) (A.map Cb.i))=true)(X:Qh l.toArray B D fin=true)
 (Z:(A.all λx=>decide (x.i<l.length))=true)(U:de l.toArray (G4 (Array.replicate l.toArray.size false) (A.map Cb.i))=true)
 (f:∀x∈A,∀w,(Instr.alloc x.t true (.tuple #[])).run P w=.ok (ptrTo w) (w.alloc (.cells x.z x.t)))
 (L:∀c a (d:Tmp) v w,Q (.panic c) (Act.put a (some d) v) w->Q (.panic c) a w)(W:∀c a (d:Tmp) v w,Q (.panic c) a w->Q (.panic c) (Act.put a (some d) v) w)
 (h:Ir P l.toArray Q (iP w A (λF H=>Cu P l.toArray Q (marked l B D) w F H)) (marked l B C) a w.drew):(Code.region id l.toArray true).wp P Q a w:=by
 refine Q8 e ?_;have M:=zG Y;have S:=AK_ (P:=P) R f;have g:=Me I;have O:=ie (E:=iP w A (λF H=>Cu P l.toArray Q (marked l B D) w F H)) B M I L C _ a w.drew (oZ U) ZA T h;have J:=xw (B:=w.heap.size) S M g W (C.length+A.length) C.length (A.map λx=>(x,none)) (Array.replicate l.toArray.size false) a w.drew (UB _) (by rw[bN];simp) (AHj A) ⟨λx N G=>by simp at G,by rw[zh];exact List.nodup_nil⟩ AK
  (λi hi=>by
   rw[bN] at hi;obtain⟨x,G,rfl⟩:=Gr.1 hi;have:=DS.1 Z x G;simp only[CJ] at this;simp[this])
  (λx N G=>by simp at G) (by rw[bN];exact O)
 rw[z7] at J;have K:=iY (m:=D.length) (λF H V=>by
  have:=aC B I L D fin w F H Uv X V;exact wpAny_of_held _ _ _ _ this) _ _ _ _ J
 rw[b] at K;exact K
section
variable {o:Oper} {rest:List (Bool × Oper)} {a:Act} {w:AA}
def ABN(B:wpQuiet P ops (λC=>∃y:Iq w w,C=y.x) (λA=>Ir P ops Q E rest A w) [o] a):Ir P ops Q E ((false,o)::rest) a w:=B
def au(hw:Region.wanted o (yielded ops a.tmps)=true)
 (h:∀w',Below w w w'->∀K:Act->AA->Prop,(∀B A,Below w' w' A->Ir P ops Q E rest B A->K B A)->o.wp P a w' K Q):Ir P ops Q E ((true,o)::rest) a w:=by
 exact qk
def ABO(B:∀A,Below w w A->E a A):Ir P ops Q E [] a w:=B
end
end
def NS{B:Nat}{x:Cb}{s:List (Cb × Option Nat)}{w:AA}(A:s.map Prod.fst=[x])(F:pend s=[])(G:Made B s w):∃g,s=[(x,some g)]/\B<=g/\AG w g x.t x.z:=by
 match s,A with
 | [(_,none)],A=>simp[pend] at F
 | [(y,some g)],A=>
  simp at A;subst A;obtain⟨C,_,D⟩:=G.blk y g AH;exact⟨g,rfl,C,D⟩
end
def GC(c:UInt8):Bool:=decide (97<=c.toNat)&&decide (c.toNat<=122)
def CD(c:UInt8):Bool:=decide (48<=c.toNat)&&decide (c.toNat<=57)
def HY(c:UInt8):Bool:=GC c||CD c||c==95
def SW(l:AE):Bool:=
 match l with
 | []=>false
 | c::r=>GC c&&r.all HY&&decide (l.length<=12)
def Cc(l:AE):Nat:=l.foldl (λA c=>A*10+(c.toNat-48)) 0
def MD(l:AE):Option Nat:=if l.all CD && !l.isEmpty then some (Cc l) else none
def DO(l:AE):AE × Int:=
 match l.getLast? with
 | some 100=>(l.dropLast,3)
 | some 109=>(l.dropLast,4)
 | _=>(l,2)
def B4(c:UInt8):Bool:=c !=46
def G3(l:AE):Option (AE × AE × Int):=
 let C:=(DO l).1
 let A:=C.takeWhile B4
 let B:=(C.dropWhile B4).drop 1
 if C.any (λc=>c==46)&&(decide (B.length<1)||decide (4<B.length)) then none
 else if !(A++B).all CD then none
 else if decide (A.length<1)||decide (9<A.length)||(decide (1<A.length)&&A.head? == some 48) then none
 else some (A,B,(DO l).2)
structure EP where
 n:Int
 d:Int
deriving DecidableEq,Inhabited
def B8(n d:Nat):EP:=⟨(n / Nat.gcd d n:Nat),(d / Nat.gcd d n:Nat)⟩
def Ff(l:AE):Option (EP × Int):=
 match G3 l with
 | some (a,b,A)=>some (B8 (Cc (a++b)) (10 ^ b.length),A)
 | none=>none
def G9(l:AE):EP × Int:=(Ff l).getD (⟨0,0⟩,0)
def Jj(y:Nat):Bool:=y%4==0&&(y%100 !=0||y%400==0)
def G6(y m:Nat):Nat:=if m=2 then (if Jj y then 29 else 28) else if m=4\/m=6\/m=9\/m=11 then 30 else 31
def LH:Nat->Nat
 | 0=>0
 | m+1=>LH m+G6 (1900+m / 12) (m%12+1)
def dX(y m d:Nat):Option Nat:=
 if y<1900\/2099<y\/m<1\/12<m\/d<1\/G6 y m<d then none else some (LH ((y-1900)*12+m-1)+d-1)
def KU(l:AE):Option Nat:=
 if l.length≠10\/l[4]?≠some 45\/l[7]?≠some 45 then none
 else match MD (l.take 4),MD ((l.drop 5).take 2),MD (l.drop 8) with
  | some y,some m,some d=>dX y m d
  | _,_,_=>none
def CU:Bool->AE->Nat
 | _,[]=>0
 | A,c::r=>
  if c==10 then CU false r+1
  else if c==35 then CU true r+1
  else if !A&&c !=9&&c !=13&&c !=32 then 0
  else CU A r+1
def runN(A:Bool):AE->Nat
 | []=>0
 | c::r=>if HY c||(A&&c==46) then runN A r+1 else 0
def Sn(c:UInt8):Bool:=[60,62,61,43,45,42,47,40,41,123,125,44,59].contains c
def II:AE->Nat
 | []=>0
 | [a]=>if Sn a then 1 else 0
 | a::b::_=>if (a==60&&b==61)||(a==62&&b==61)||(a==60&&b==62) then 2 else if Sn a then 1 else 0
def HS(l:AE):Option (Int × Nat):=
 match l with
 | []=>none
 | c::r=>
  if GC c then (if runN false l<=12 then some (1,runN false l) else none)
  else if CD c then (if (G3 (l.take (runN true l))).isSome then some (2,runN true l) else none)
  else if c==64 then (if 11<=l.length&&(KU ((l.drop 1).take 10)).isSome then some (3,11) else none)
  else if 0<II l then some (4,II l) else none
inductive Tok where
 | w (kind:Int) (text:AE)
 | n (v:EP) (Ey:Int)
 | d (day:Nat)
deriving Inhabited,DecidableEq
def KX(kind:Int)(A:AE):Tok:=
 if kind=2 then .n (G9 A).1 (G9 A).2 else if kind=3 then .d ((KU (A.drop 1)).getD 0) else .w kind A
def GB:Nat->AE->Option (List Tok)
 | 0,_=>none
 | f+1,l=>
  match l.drop (CU false l) with
  | []=>some []
  | c::r=>
   match HS (c::r) with
   | none=>none
   | some (kind,n)=>(GB f ((c::r).drop n)).map (KX kind ((c::r).take n) :: ·)
inductive AY where
 | zero
 | lit (v:EP) (Ey:Int)
 | name (s:AE)
 | EY (n:Int)
 | un (op:Int) (a:AY)
 | bin (op:Int) (a b:AY)
 | ite (c a b:AY)
deriving Inhabited,DecidableEq
structure M7 where
 kind:Int
 limit:Int
deriving DecidableEq
structure N3 where
 year:Int
 f:EP
deriving DecidableEq
structure Fm where
 name:AE
 body:AY
deriving DecidableEq
structure K9 where
 CN:Int
 cond:AY
 pay:AY
deriving DecidableEq
structure Kx where
 CN:Int
 H5:AY
deriving DecidableEq
structure Ah where
 fr:Int:=0
 mode:Int:=0
 unit:Int:=0
 Ae:List M7:=[]
 Ad:List N3:=[]
 lets:List Fm:=[]
 Ac:List K9:=[]
 red:List Kx:=[]
deriving DecidableEq
structure CL where
 name:AE
 cur:Int
 A0:List Ah
deriving DecidableEq
structure Rd where
 l:List Tok
 bad:Bool
deriving DecidableEq
def Rd.Am(r:Rd)(s:AE):Bool:=!r.bad&&(match r.l with | .w _ t::_=>t==s|_=>false)
def Rd.AX(r:Rd):Rd:=⟨r.l.tail,r.bad⟩
def Rd.stop(r:Rd):Rd:=⟨r.l,true⟩
def Rd.take(r:Rd)(s:AE):Rd:=if r.Am s then r.AX else r
def Rd.want(r:Rd)(s:AE):Rd:=if r.Am s then r.AX else r.stop
def mX:List AE:=
 [[97,110,100],[98,101,115,116],[98,121],[99,114,101,100,105,116],[99,117,114,114,101,110,99,121],[101,108,115,101],[102,108,111,111,114],[102,114,111,109],[103,114,97,110,116],[105,102],[105,110,100,101,120],
  [108,101,116],[108,105,109,105,116],[109,97,120],[109,105,110],[110,111,116],[111,114],[112,97,121],[114,101,100,117,99,101],[114,111,117,110,100],[115,116,97,116,117,116,101],[116,104,101,110]]
def Oz(s:AE):Bool:=mX.contains s
def FJ(s:AE):Bool:=SW s && !Oz s
def Rd.name(r:Rd):AE × Rd:=
 if r.bad then ([],r.stop) else
 match r.l with
 | .w k t::_=>if k=1/\FJ t=true then (t,r.AX) else ([],r.stop)
 | _=>([],r.stop)
def Rd.whole(r:Rd)(C B:Int):Int × Rd:=
 if r.bad then (0,r.stop) else
 match r.l with
 | .n v A::_=>if A=2/\v.d=1/\C<=v.n/\v.n<=B then (v.n,r.AX) else (0,r.stop)
 | _=>(0,r.stop)
def GD:List (AE × Int):=[([118,111,108,117,110,116,97,114,121],6),([115,101,114,118,105,99,101],9),([117,110,101,109,112,108,111,121,101,100],7),([115,105,99,107],8),([99,104,105,108,100],10),([114,101,115,105,100,101,110,99,101],5)]
def F5:List (AE × Int):=[([111,108,100],1),([100,105,115,97,98,105,108,105,116,121],2),([115,117,114,118,105,118,111,114],3),([102,97,109,105,108,121],4),([115,105,99,107,110,101,115,115],5)]
def IS:List (AE × Int):=[([100,111,119,110],1),([117,112],2),([104,97,108,102],3),([101,118,101,110],4)]
def NP(A:Nat):List (AE × Int):=if A=1 then GD else if A=2 then F5 else IS
def Rd.of(r:Rd)(A:Nat):Int × Rd:=
 if r.bad then (0,r.stop) else
 match r.l with
 | .w k t::_=>if k=1 then (match (NP A).lookup t with|some n=>(n,r.AX)|none=>(0,r.stop)) else (0,r.stop)
 | _=>(0,r.stop)
def opsL(n:Nat):List (Int × AE):=
 if n=1 then [(18,[111,114])] else if n=2 then [(17,[97,110,100])]
 else if n=4 then [(11,[60]),(12,[60,61]),(13,[61]),(14,[60,62]),(15,[62]),(16,[62,61])]
 else if n=5 then [(7,[43]),(8,[45])] else if n=6 then [(9,[42]),(10,[47])] else []
def Rd.binary(r:Rd)(n:Nat):Option Int:=((opsL n).find? (λA=>r.Am A.2)).map (·.1)
inductive Yy where
 | ex (n:Nat)
 | lp (n:Nat) (e:AY)
 | call (op:Int)
 | Kg
def pp:Nat->Yy->Rd->AY × Rd
 | 0,_,r=>(.zero,r.stop)
 | f+1,.ex B,r=>
  if r.bad then (.zero,r) else
  if B=0 then
   if r.Am [105,102] then
    let c:=pp f (.ex 0) r.AX
    let C:=pp f (.ex 0) (c.2.want [116,104,101,110])
    let D:=pp f (.ex 0) (C.2.want [101,108,115,101])
    (.ite c.1 C.1 D.1,D.2)
   else pp f (.ex 1) r
  else if B=3 then
   if r.Am [110,111,116] then
    let A:=pp f (.ex 3) r.AX
    (.un 5 A.1,A.2)
   else pp f (.ex 4) r
  else if B=7 then pp f .Kg r
  else
   let A:=pp f (.ex (B+1)) r
   pp f (.lp B A.1) A.2
 | f+1,.lp B A,r=>
  if r.bad then (A,r) else
  match r.binary B with
  | none=>(A,r)
  | some E=>
   let F:=pp f (.ex (B+1)) r.AX
   if B=4 then (.bin E A F.1,F.2) else pp f (.lp B (.bin E A F.1)) F.2
 | f+1,.call E,r=>
  let C:=pp f (.ex 0) (r.AX.want [40])
  if E=6 then (.un 6 C.1,C.2.want [41])
  else
   let D:=pp f (.ex 0) (C.2.want [44])
   (.bin E C.1 D.1,D.2.want [41])
 | f+1,.Kg,r=>
  match r.bad,r.l with
  | false,.n v G::_=>(.lit v G,r.AX)
  | _,_=>
   if r.Am [45] then
    let A:=pp f (.ex 7) r.AX
    (.un 4 A.1,A.2)
   else if r.Am [40] then
    let A:=pp f (.ex 0) r.AX
    (A.1,A.2.want [41])
   else if r.Am [98,101,115,116] then
    let B:=(r.AX.want [40]).whole 1 45
    (.EY B.1,B.2.want [41])
   else if r.Am [102,108,111,111,114] then pp f (.call 6) r
   else if r.Am [109,105,110] then pp f (.call 19) r
   else if r.Am [109,97,120] then pp f (.call 20) r
   else (.name r.name.1,r.name.2)
def Ek(r:Rd):AY × Rd:=pp 200000 (.ex 0) r
def Cy(v:Ah)(r:Rd):Ah × Rd:=
 let H:Ah × Rd:=
  if r.Am [99,114,101,100,105,116] then
   let D:=r.AX.of 1
   if D.2.Am [108,105,109,105,116] then
    let E:=D.2.AX.whole 1 73049
    ({ v with Ae:=v.Ae++[⟨D.1,E.1⟩] },E.2)
   else ({ v with Ae:=v.Ae++[⟨D.1,0⟩] },D.2)
  else if r.Am [105,110,100,101,120] then
   let A:=r.AX.whole 1900 2099
   match A.2.bad,A.2.l with
   | false,.n f I::_=>if I=2/\0<f.n then ({ v with Ad:=v.Ad++[⟨A.1,f⟩] },A.2.AX) else ({ v with Ad:=v.Ad++[⟨A.1,⟨0,0⟩⟩] },A.2.stop)
   | _,_=>({ v with Ad:=v.Ad++[⟨A.1,⟨0,0⟩⟩] },A.2.stop)
  else if r.Am [108,101,116] then
   let G:=r.AX.name
   let C:=Ek (G.2.want [61])
   ({ v with lets:=v.lets++[⟨G.1,C.1⟩] },C.2)
  else if r.Am [103,114,97,110,116] then
   let B:=r.AX.of 2
   let c:=Ek (B.2.want [105,102])
   let F:=Ek (c.2.want [112,97,121])
   ({ v with Ac:=v.Ac++[⟨B.1,c.1,F.1⟩] },F.2)
  else if r.Am [114,101,100,117,99,101] then
   let B:=r.AX.of 2
   let C:=Ek (B.2.want [98,121])
   ({ v with red:=v.red++[⟨B.1,C.1⟩] },C.2)
  else (v,r.stop)
 (H.1,H.2.want [59])
def Ib:Nat->Ah->Rd->Ah × Rd
 | 0,v,r=>(v,r)
 | f+1,v,r=>
  if r.bad then (v,r) else
  if r.Am [125] then (v,r.AX) else
  Ib f (Cy v r).1 (Cy v r).2
def CY(r:Rd):Ah × Rd:=
 let A:=r.want [102,114,111,109]
 let B:Int × Rd:=match A.bad,A.l with
  | false,.d day::_=>((day:Int),A.AX)
  | _,_=>(0,A.stop)
 let C:=((B.2.want [123]).want [114,111,117,110,100]).of 3
 let D:=C.2.whole 1 100000
 Ib 9000 { fr:=B.1,mode:=C.1,unit:=D.1 } (D.2.want [59])
def FF:Nat->List Ah->Rd->List Ah × Rd
 | 0,vs,r=>(vs,r)
 | f+1,vs,r=>
  if r.bad then (vs,r) else
  if r.Am [125] then (vs,r.AX) else
  FF f (vs++[(CY r).1]) (CY r).2
def Oe(v:EP):Bool:=decide (1<=v.d)&&decide (v.d<=1000000000)&&decide (-1000000000000000<=v.n)&&decide (v.n<=1000000000000000)&&(Nat.gcd v.n.natAbs v.d.toNat==1)
def Ej(v:EP)(A:Int):Bool:=Oe v&&decide (0<=v.n)&&decide (10000%v.d=0)&&decide (2<=A)&&decide (A<=4)&&decide (v.n / v.d<=999999999)
def AY.depth:AY->Nat
 | .un _ a=>a.depth+1
 | .bin _ a b=>max a.depth b.depth+1
 | .ite c a b=>max (max c.depth a.depth) b.depth+1
 | _=>1
def AY.size:AY->Nat
 | .un _ a=>1+a.size
 | .bin _ a b=>1+a.size+b.size
 | .ite c a b=>1+c.size+a.size+b.size
 | _=>1
def AY.DG:AY->Bool
 | .zero=>false
 | .lit v A=>Ej v A
 | .name s=>FJ s
 | .EY n=>decide (1<=n)&&decide (n<=45)
 | .un op a=>decide (4<=op)&&decide (op<=6)&&a.DG
 | .bin op a b=>decide (7<=op)&&decide (op<=20)&&a.DG&&b.DG
 | .ite c a b=>c.DG&&a.DG&&b.DG
def AY.BY(e:AY):Bool:=decide (e.depth<=10)&&decide (e.size<=60)&&e.DG
def Ee(B:Nat)(n:Int):Bool:=decide (0<n)&&(NP B).any (λA=>A.2==n)
def IF(v:Ah):Bool:=
 decide (0<=v.fr)&&decide (v.fr<=73048)&&decide (1<=v.mode)&&decide (v.mode<=4)&&decide (1<=v.unit)&&decide (v.unit<=100000)
 && decide (v.Ae.length<=6)&&decide (v.Ad.length<=20)&&decide (v.lets.length<=10)&&decide (v.Ac.length<=5)&&decide (v.red.length<=5)
 && v.Ae.all (λc=>Ee 1 c.kind&&decide (0<=c.limit)&&decide (c.limit<=73049))
 && v.Ad.all (λA=>decide (1900<=A.year)&&decide (A.year<=2099)&&Ej A.f 2&&decide (1<=A.f.n))
 && v.lets.all (λA=>FJ A.name&&A.body.BY)
 && v.Ac.all (λB=>Ee 2 B.CN&&B.cond.BY&&B.pay.BY)
 && v.red.all (λB=>Ee 2 B.CN&&B.H5.BY)
def KO(x:CL):Bool:=FJ x.name&&decide (1<=x.cur)&&decide (x.cur<=999)&&decide (1<=x.A0.length)&&decide (x.A0.length<=6)&&x.A0.all IF
def NM(t:List Tok):Option CL:=
 let C:=(Rd.mk t false).want [115,116,97,116,117,116,101]
 let c:=C.name.2.want [99,117,114,114,101,110,99,121]
 let D:=c.whole 1 999
 let A:=D.2.want [123]
 let B:List Ah × Rd:=if A.bad then ([],A) else FF 9000 [(CY A).1] (CY A).2
 if B.2.bad || !B.2.l.isEmpty then none else some ⟨C.name.1,D.1,B.1⟩
def TF(l:AE):Option CL:=
 if 8000<l.length then none else
 match GB (l.length+1) l with
 | none=>none
 | some B=>match NM B with
  | none=>none
  | some A=>if KO A then some A else none
def GE:List (AE × Int):=
 [([97,103,101],2),([121,101,97,114],2),([99,104,105,108,100,114,101,110],2),([105,110,115,117,114,101,100],3),([119,111,114,107,101,100],3),([118,111,108,117,110,116,97,114,121],3),([115,101,114,118,105,99,101],3),
  ([101,113,117,97,116,101,100],3),([114,97,105,115,105,110,103],3),([114,101,115,105,100,101,110,116],3),([98,97,115,101],4)]
def NK(op a b:Int):Int:=
 if op=7\/op=8\/op=19\/op=20 then (if a=b/\a≠1 then a else 0)
 else if op=9 then (if a=2/\b≠1 then b else if b=2/\a≠1 then a else 0)
 else if op=10 then (if b=2/\a≠1 then a else if a=b/\a≠1 then 2 else 0)
 else if op=17\/op=18 then (if a=1/\b=1 then 1 else 0)
 else if a=b/\a≠1 then 1 else 0
def NL(op a:Int):Int:=if op=5 then (if a=1 then 1 else 0) else if a≠1 then a else 0
abbrev Env:=List (AE × Int)
def Iz(s:AE)(B:Env):Option Int:=
 match GE.lookup s with
 | some A=>some A
 | none=>B.reverse.lookup s
def C5(A:Env):AY->Option Int
 | .zero=>none
 | .lit _ D=>some D
 | .EY _=>some 4
 | .name s=>Iz s A
 | .un op a=>(C5 A a).bind (λB=>if NL op B=0 then none else some (NL op B))
 | .bin op a b=>(C5 A a).bind (λB=>(C5 A b).bind (λC=>if NK op B C=0 then none else some (NK op B C)))
 | .ite c a b=>(C5 A c).bind (λB=>(C5 A a).bind (λC=>(C5 A b).bind (λE=>if B=1/\C=E/\C≠0 then some C else none)))
def Dk(B:Env)(e:AY)(A:Int):Bool:=e.BY&&C5 B e==some A
def G5:List Fm->Env->Option Env
 | [],env=>some env
 | x::r,env=>
  if (GE.lookup x.name).isSome || !FJ x.name||env.any (λB=>B.1==x.name) || !x.body.BY then none
  else match C5 env x.body with
   | some A=>G5 r (env++[(x.name,A)])
   | none=>none
def distinct(l:Ay):Bool:=
 match l with
 | []=>true
 | a::r=>!r.contains a&&distinct r
def rising(l:Ay):Bool:=
 match l with
 | a::b::r=>decide (a<b)&&rising (b::r)
 | _=>true
def ME(v:Ah):Bool:=
 match G5 v.lets [] with
 | none=>false
 | some B=>
  distinct (v.Ae.map (·.kind))&&rising (v.Ad.map (·.year))&&distinct (v.Ac.map (·.CN))&&distinct (v.red.map (·.CN))
  && v.Ac.all (λA=>Dk B A.cond 1&&Dk B A.pay 4)&&v.red.all (λA=>Dk B A.H5 2)
def NH(x:CL):Bool:=KO x&&rising (x.A0.map (·.fr))&&x.A0.all ME
def zo(A:Bool)(l r:AE)(h:CU A l<l.length):CU A (l++r)=CU A l:=by
 induction l generalizing A with
 | nil=>simp at h
 | cons c l D=>
  simp only[CU,DC] at h ⊢;split
  .rename_i B;rw[Ab B] at h;rw[D _ Fq]
  .rename_i B;rw[AU B] at h;split
   .rename_i C;rw[Ab C] at h;rw[D _ Fq]
   .rename_i C;rw[AU C] at h;split
    .rfl
    .rename_i E;rw[AU E] at h;rw[D _ Fq]
def zp(l r:AE)(h:CU false l=l.length)(A:l.all (λc=>c !=35)=true):CU false (l++r)=l.length+CU false r:=by
 induction l with
 | nil=>simp
 | cons c l D=>
  simp only[Ju,At,E8,ne_eq] at A;have E:(c==35)=false:=by simp[A.1]
  simp only[CU,DC,E,CB] at h ⊢;by_cases C:(c==10)=true
  .rw[Ab C] at h ⊢;rw[D U A.2];omega
  .rw[AU C] at h ⊢;simp only[DW,DV] at h ⊢;split
   .rename_i B;rw[Ab B] at h;omega
   .rename_i B;rw[AU B] at h;rw[D U A.2];omega
def j6(p:Bool)(l r:AE)(h:runN p l<l.length):runN p (l++r)=runN p l:=by
 induction l with
 | nil=>simp at h
 | cons c l B=>
  simp only[runN,DC] at h ⊢;split
  .rename_i A;rw[Ab A] at h;rw[B Fq]
  .rfl
def ak(p:Bool)(l:AE):runN p l<=l.length:=by
 induction l with
 | nil=>simp[runN]
 | cons c l A=>
  simp only[runN,CB];split<;>omega
def zz(l r:AE)(A:2<=l.length):II (l++r)=II l:=by
 match l,A with
 | a::b::l,_=>rfl
 | [],A=>simp at A
 | [a],A=>simp at A
def WR:Nat->AE->Option (List Tok)
 | 0,_=>none
 | f+1,l=>
  match l.drop (CU false l) with
  | []=>if l.all (λc=>c !=35)&&CU false l==l.length then some [] else none
  | c::r=>
   match HS (c::r) with
   | none=>none
   | some (kind,n)=>if 2<=(c::r).length/\n<(c::r).length then (WR f ((c::r).drop n)).map (KX kind ((c::r).take n) :: ·) else none
def yz(l r:AE)(kind:Int)(n:Nat)(A:HS l=some (kind,n))(D:2<=l.length)(H:n<l.length):HS (l++r)=some (kind,n):=by
 match l,D with
 | [],D=>simp at D
 | c::l,D=>
  simp only[HS,DC] at A ⊢;split
  .rename_i F;rw[Ab F] at A;split at A
   .rename_i C;simp only[CW,Hg] at A;have B:=j6 false (c::l) r (by rw[A.2];exact H);simp only[DC] at B;rw[B,Ab C,A.1,A.2]
   .cases A
  .rename_i F;rw[AU F] at A;split
   .rename_i G;rw[Ab G] at A;split at A
    .rename_i C;simp only[CW,Hg] at A;have B:=j6 true (c::l) r (by rw[A.2];exact H);simp only[DC] at B;rw[B];have E:(c::(l++r)).take (runN true (c::l))=(c::l).take (runN true (c::l)):=by
      rw[<-DC,Wg (ak _ _)]
     rw[E,Ab C,A.1,A.2]
    .cases A
   .rename_i G;rw[AU G] at A;split
    .rename_i ha;rw[Ab ha] at A;split at A
     .rename_i C;simp only[CW,Hg] at A;simp only[At,CJ] at C;have J:11<=(c::(l++r)).length:=by simp only[CB,Cp] at C ⊢;omega
      have E:((c::(l++r)).drop 1).take 10=((c::l).drop 1).take 10:=by
       simp only[Qz,Nh];rw[Wg (by simp only[CB] at C;omega)]
      have I:(decide (11<=(c::(l++r)).length)&&(KU (((c::(l++r)).drop 1).take 10)).isSome)=true:=by
       rw[E];simp only[At,CJ];exact⟨J,C.2⟩
      rw[Ab I,A.1,A.2]
     .cases A
    .rename_i ha;rw[AU ha] at A;have B:=zz (c::l) r D;simp only[DC] at B;rw[B];exact A
def AGE(f:Nat):∀(g:Nat) (l:AE) (t:List Tok),GB f l=some t->f<=g->GB g l=some t:=by
 induction f with
 | zero=>intro g l t h;cases h
 | succ f E=>
  intro g l t h C;match g,C with
  | g+1,C=>
   simp only[GB] at h ⊢;split
   .rename_i A;rw[A] at h;exact h
   .rename_i c G A;rw[A] at h;simp only at h ⊢;split
    .rename_i B;rw[B] at h;cases h
    .rename_i kind F B;rw[B] at h;simp only[I6] at h ⊢;obtain⟨D,ha,rfl⟩:=h;exact⟨D,E g _ _ ha U,rfl⟩
def AGD(f:Nat):∀(c rest:AE) (t A:List Tok) (g:Nat),WR f c=some t->GB g rest=some A->GB (f+g) (c++rest)=some (t++A):=by
 induction f with
 | zero=>intro c rest t A g h;cases h
 | succ f R=>
  intro c rest t A g h K;rw[WR] at h;split at h
  .rename_i E;split at h
   .rename_i H;simp only[At,C7] at H;cases h;have P:=zp c rest H.2 H.1;have G:=AGE g (f+1+g) rest A K U;have F:f+1+g=(f+g)+1:=U;rw[F] at G ⊢;rw[GB] at G ⊢;rw[P,<-I5,List.drop_left] at *;simpa using G
   .cases h
  .rename_i D C E;split at h
   .cases h
   .rename_i kind B M;split at h
    .rename_i J;simp only[I6] at h;obtain⟨L,ha,rfl⟩:=h;have Q:CU false c<c.length:=by
      have:0<(c.drop (CU false c)).length:=by rw[E];simp
      simp only[EM] at this;omega
     have F:f+1+g=(f+g)+1:=U;rw[F,GB,zo _ _ _ Q,cK U,E];have I:=yz (D::C) rest kind B M J.1 J.2;simp only[DC] at I ⊢;rw[I];have N:(D::(C++rest)).drop B=(D::C).drop B++rest:=by
      rw[<-DC,cK U]
     have O:(D::(C++rest)).take B=(D::C).take B:=by
      rw[<-DC,Wg U]
     simp only[N,O];rw[R _ rest L A g ha K];rfl
    .cases h
def Iv(c:UInt8):Bool:=HY c||c==46
def Ot(t:AE):Prop:=(∃c A,t=c::A/\CD c=true)/\t.all Iv=true/\(G3 t).isSome=true
def AAY(t:AE)(x:UInt8)(r:AE)(A:t.all Iv=true)(B:Iv x=false):runN true (t++x::r)=t.length:=by
 induction t with
 | nil=>simp only[Dg,runN,EE];unfold Iv at B;simp[B]
 | cons c t D=>
  simp only[Ju,At] at A;have C:(HY c||(true&&c==46))=true:=by have:=A.1;unfold Iv at this;simpa using this
  simp only[DC,runN,C,CI,D A.2,CB]
def o8{P:UInt8->Prop}(A:∀n,n<256->P (UInt8.ofNat n))(c:UInt8):P c:=by
 have:=A c.toNat c.toNat_lt;rwa [UInt8.ofNat_toNat] at this
def AId(c:UInt8):CD c=true->GC c=false/\(c==10)=false/\(c==35)=false/\c !=9/\c !=13/\c !=32:=
 o8 (P:=λc=>CD c=true->GC c=false/\(c==10)=false/\(c==35)=false/\c !=9/\c !=13/\c !=32) L_ c
def AGC(t:AE)(x:UInt8)(r:AE)(E:List Tok)(g:Nat)(H:Ot t)(R:Iv x=false)(P:GB g (x::r)=some E):
 GB (g+1) (t++x::r)=some (.n (G9 t).1 (G9 t).2::E):=by
 obtain⟨⟨c,A,rfl,C⟩,ha,O⟩:=H;obtain⟨I,J,K,L,M,N⟩:=AId c C;have Q:CU false (c::A++x::r)=0:=by simp[CU,J,K,L,M,N]
 have D:=AAY (c::A) x r ha R;have B:HS (c::A++x::r)=some (2,(c::A).length):=by
  have B:((c::A)++x::r).take (c::A).length=c::A:=List.take_left;simp only[DC] at D B ⊢;simp only[HS,I,C,D,B,O,CI,DW,DV]
 rw[GB,Q,Nh];simp only[DC] at B ⊢;rw[B];have F:(c::(A++x::r)).drop (c::A).length=x::r:=by rw[<-DC,List.drop_left]
 have G:(c::(A++x::r)).take (c::A).length=c::A:=by rw[<-DC,List.take_left]
 simp only[F,G,P];rfl
def Dm:Nat->Nat->AE
 | 0,_=>[]
 | f+1,n=>if n<=9 then [UInt8.ofNat (48+n)] else Dm f (n / 10)++[UInt8.ofNat (48+n%10)]
def BG(n:Nat):AE:=Dm 20 n
def Du(n:Nat):AE:=BG (n / 100)++[46]++BG (n / 10%10)++BG (n%10)
def UA:∀n,n<10->CD (UInt8.ofNat (48+n))=true/\(UInt8.ofNat (48+n)).toNat-48=n/\(UInt8.ofNat (48+n)==48)=decide (n=0):=AD
def dS(f n:Nat)(h:9<n):Dm (f+1) n=Dm f (n / 10)++[UInt8.ofNat (48+n%10)]:=by rw[Dm,AU U]
def aJ(a:AE)(c:UInt8):Cc (a++[c])=Cc a*10+(c.toNat-48):=by simp[Cc]
def AIf(f:Nat):∀n,n<10 ^ f->0<f->(Dm f n).all CD=true/\Cc (Dm f n)=n/\1<=(Dm f n).length/\(Dm f n).length<=f/\(1<(Dm f n).length->(Dm f n).head?≠some 48)/\((Dm f n).length=1->n<=9)/\(n≠0->(Dm f n).head?≠some 48):=by
 induction f with
 | zero=>intro n _ h;omega
 | succ f P=>
  intro n hn _;by_cases D:n<=9
  .obtain⟨A,B,C⟩:=UA n U;have H:Dm (f+1) n=[UInt8.ofNat (48+n)]:=by rw[Dm,Ab D]
   rw[H];have L:Cc [UInt8.ofNat (48+n)]=n:=by
    have:Cc [UInt8.ofNat (48+n)]=0*10+((UInt8.ofNat (48+n)).toNat-48):=rfl;rw[this,B];omega
   refine⟨by rw[Ju,A];rfl,L,AH,AH,AH,λ_=>D,λI=>?_⟩;simp only[List.head?_cons,ne_eq,CW];intro J;rw[J] at C;simp[I] at C
  .have K:0<f:=by
    rcases f with _|f
    .have:n<10:=gY;omega
    .omega
   obtain⟨N,O,F,S,T,V,G⟩:=P (n / 10) wB K;obtain⟨A,B,C⟩:=UA (n%10) U;rw[dS f n U];have E:(Dm f (n / 10)++[UInt8.ofNat (48+n%10)]).head? = (Dm f (n / 10)).head?:=by
    cases M:Dm f (n / 10) with
    | nil=>rw[M] at F;simp at F
    | cons Q R=>rfl
   refine⟨by rw[Ml,N,Ju,A];rfl,by rw[aJ,O,B];omega,AH,AM,λ_=>?_,λh=>by simp only[Cp,CB,EE] at h;omega,λ_=>?_⟩
   .rw[E];exact G U
   .rw[E];exact G U
def RQ(c:UInt8):CD c=true->(c==46)=false/\B4 c=true/\Iv c=true/\c≠100/\c≠109:=
 o8 (P:=λc=>CD c=true->(c==46)=false/\B4 c=true/\Iv c=true/\c≠100/\c≠109) L_ c
def AIx(l:AE)(B:l.all CD=true):DO l=(l,2):=by
 unfold DO;cases F:l.getLast? with
 | none=>rfl
 | some c=>
  have E:CD c=true:=List.all_eq_true.mp B c (List.mem_of_getLast? F);obtain⟨_,_,_,C,D⟩:=RQ c E;split
  .rename_i A;cases A;exact absurd rfl C
  .rename_i A;cases A;exact absurd rfl D
  .rfl
def oO(l:AE):DO (l++[100])=(l,3):=by simp[DO]
def oM(l:AE):DO (l++[109])=(l,4):=by simp[DO]
def ny(l:AE)(A:l.all CD=true):l.any (λc=>c==46)=false/\l.takeWhile B4=l/\l.dropWhile B4=[]:=by
 induction l with
 | nil=>simp
 | cons c l G=>
  simp only[Ju,At] at A;obtain⟨B,C,_⟩:=RQ c A.1;obtain⟨D,E,F⟩:=G A.2;simp only[Qy,B,No,D,Qx,C,CI,E,Tg,F,and_self]
structure P4(l:AE):Prop where
 all:l.all CD=true
 lo:1<=l.length
 hi:l.length<=9
 head:1<l.length->l.head?≠some 48
def bR(s l:AE)(C:Int)(J:DO s=(l,C))(A:P4 l):G3 s=some (l,[],C):=by
 obtain⟨G,H,I⟩:=ny l A.all;have F:(decide (1<l.length)&&l.head? == some 48)=false:=by
  by_cases B:1<l.length
  .have:=A.head B;simp[B,this]
  .simp[B]
 have D:decide (l.length<1)=false:=by have:=A.lo;rw[PQ];omega
 have E:decide (9<l.length)=false:=by have:=A.hi;rw[PQ];omega
 simp only[G3,J,G,H,I,List.drop_nil,El,A.all,F,D,E,Bool.false_and,DW,DV,Tj,Np]
def mH(n:Nat):B8 n 1=⟨n,1⟩:=by simp[B8]
def dV(s l:AE)(A:Int)(C:DO s=(l,A))(B:P4 l):G9 s=(⟨(Cc l:Nat),1⟩,A):=by
 simp[G9,Ff,bR s l A C B,mH]
def AIe(f:Nat):∀n k,n<10 ^ (k+1)->(Dm f n).length<=k+1:=by
 induction f with
 | zero=>intro n k h;simp[Dm]
 | succ f B=>
  intro n k h;by_cases A:n<=9
  .rw[Dm,Ab A];simp
  .rw[dS f n U];cases k with
   | zero=>simp at h;omega
   | succ k=>
    have:=B (n / 10) k (by rw[JB] at h;omega);simp;omega
def dP(n:Nat)(h:n<1000000):P4 (BG n)/\Cc (BG n)=n:=by
 exact rY
def AK3(l:AE)(A:l.all CD=true):l.all Iv=true:=
 List.all_eq_true.mpr (λc B=>(RQ c (List.all_eq_true.mp A c B)).2.2.1)
def AIb{l:AE}(A:P4 l):∃c r,l=c::r/\CD c=true:=by
 cases l with
 | nil=>have:=A.lo;simp at this
 | cons c r=>have:=A.all;simp only[Ju,At] at this;exact⟨c,r,rfl,this.1⟩
def bk(l e:AE)(B:Int)(F:DO (l++e)=(l,B))(E:e.all Iv=true)(A:P4 l):Ot (l++e):=by
 obtain⟨c,G,C,D⟩:=AIb A;refine⟨⟨c,G++e,by rw[C];rfl,D⟩,by simp only[Ml,AK3 l A.all,E,Qw],?_⟩;rw[bR _ l B F A];rfl
def bl(n:Nat)(C:n<1000000):Ot (BG n)/\G9 (BG n)=(⟨n,1⟩,2):=by
 obtain⟨A,D⟩:=dP n C;have B:=AIx _ A.all;refine⟨?_,by rw[dV _ _ 2 B A,D]⟩;have:=bk (BG n) [] 2 (by rw[El];exact B) rfl A;rwa [El] at this
def TP(n:Nat)(h:n<1000000):Ot (BG n++[100])/\G9 (BG n++[100])=(⟨n,1⟩,3):=by
 obtain⟨A,C⟩:=dP n h;have B:=oO (BG n);exact⟨bk (BG n) [100] 3 B AD A,by rw[dV _ _ 3 B A,C]⟩
def ll(n:Nat)(h:n<1000000):Ot (BG n++[109])/\G9 (BG n++[109])=(⟨n,1⟩,4):=by
 obtain⟨A,C⟩:=dP n h;have B:=oM (BG n);exact⟨bk (BG n) [109] 4 B AD A,by rw[dV _ _ 4 B A,C]⟩
def dW(n:Nat)(A:n<=9):BG n=[UInt8.ofNat (48+n)]:=by
 unfold BG;rw[Dm,Ab A]
def TE(a b c:Nat):AE:=[UInt8.ofNat (48+a),46,UInt8.ofNat (48+b),UInt8.ofNat (48+c)]
def AEI:∀a,a<10->∀b,b<10->∀c,c<10->((TE a b c).all Iv&&(G3 (TE a b c)).isSome&&decide (G9 (TE a b c)=(B8 (100*a+10*b+c) 100,2)))=true:=by
 decide +kernel
def TO(n:Nat)(h:n<1000):Ot (Du n)/\G9 (Du n)=(B8 n 100,2):=by
 have B:Du n=TE (n / 100) (n / 10%10) (n%10):=by
  unfold Du TE;rw[dW _ U,dW _ U,dW _ U];rfl
 have A:=AEI (n / 100) U (n / 10%10) U (n%10) U;simp only[At,CJ] at A;rw[B];refine⟨⟨⟨UInt8.ofNat (48+n / 100),_,rfl,(UA (n / 100) U).1⟩,A.1.1,A.1.2⟩,?_⟩;rw[A.2];congr 2
 omega
inductive DX where
 | c (l:AE) (t:List Tok)
 | n (l:AE) (v:EP) (Ey:Int)
def flat:List DX->AE
 | []=>[]
 | .c l _::r=>l++flat r
 | .n l _ _::r=>l++flat r
def B7:List DX->List Tok
 | []=>[]
 | .c _ t::r=>t++B7 r
 | .n _ v A::r=>.n v A::B7 r
def lj:List DX->Bool
 | .c (x::_) _::_=>!Iv x
 | _=>false
def Dd:List DX->Prop
 | []=>True
 | .c l t::r=>WR 60 l=some t/\Dd r
 | .n l v A::r=>(Ot l/\G9 l=(v,A))/\lj r=true/\Dd r
def cz(a b:List DX):flat (a++b)=flat a++flat b:=by
 induction a with
 | nil=>rfl
 | cons B a A=>cases B<;>simp[flat,A]
def Ve(a b:List DX):B7 (a++b)=B7 a++B7 b:=by
 induction a with
 | nil=>rfl
 | cons B a A=>cases B<;>simp[B7,A]
def Qi(a b:List DX)(ha:Dd a)(E:Dd b):Dd (a++b):=by
 induction a with
 | nil=>exact E
 | cons F a C=>
  cases F with
  | c A H=>exact⟨ha.1,C ha.2⟩
  | n A I D=>
   refine⟨ha.1,?_,C ha.2.2⟩;have B:=ha.2.1;cases a with
   | nil=>cases B
   | cons G a=>cases G with
    | c A H=>cases A with
     | nil=>cases B
     | cons J A=>exact B
    | n A I D=>cases B
def AGA(s:List DX)(rest:AE)(I:List Tok)(g:Nat)(C:Dd s)(P:GB g rest=some I):∃M,GB M (flat s++rest)=some (B7 s++I):=by
 induction s with
 | nil=>exact⟨g,P⟩
 | cons s B K=>
  cases s with
  | c E S=>
   obtain⟨A,H⟩:=K C.2;refine⟨60+A,?_⟩;simp only[flat,B7,E9];exact AGD 60 E _ S _ A C.1 H
  | n E U L=>
   obtain⟨A,H⟩:=K C.2.2;obtain⟨⟨N,O⟩,D,_⟩:=C;cases B with
   | nil=>cases D
   | cons R B=>cases R with
    | n E U L=>cases D
    | c F T=>cases F with
     | nil=>cases D
     | cons J F=>
      refine⟨A+1,?_⟩;have Q:Iv J=false:=by simpa[lj] using D
      have G:=AGC E J (F++flat B++rest) (B7 (.c (J::F) T::B)++I) A N Q (by simpa[flat] using H);rw[O] at G;simp only[flat,B7,E9,DC] at G ⊢;exact G
def Gv(t:List Tok)(f:Ah->Ah):Prop:=∀(A:Ah) (rest:List Tok),Cy A ⟨t++rest,false⟩=(f A,⟨rest,false⟩)/\(Rd.mk (t++rest) false).Am [125]=false
def Vp:List DX:=[.c [99,114,101,100,105,116,32,118,111,108,117,110,116,97,114,121,59,32] [.w 1 [99,114,101,100,105,116],.w 1 [118,111,108,117,110,116,97,114,121],.w 4 [59]]]
def nX(v:Ah):Ah:={ v with Ae:=v.Ae++[⟨6,0⟩] }
def AEw:Dd (Vp):=⟨AF,trivial⟩
def AJr:Gv (B7 (Vp)) (nX):=λA rest=>⟨AF,AF⟩
def Sq(k:Nat):List DX:=[.c [99,114,101,100,105,116,32,117,110,101,109,112,108,111,121,101,100,32,108,105,109,105,116,32] [.w 1 [99,114,101,100,105,116],.w 1 [117,110,101,109,112,108,111,121,101,100],.w 1 [108,105,109,105,116]],.n (BG k) ⟨(k:Nat),1⟩ 2,.c [59,32] [.w 4 [59]]]
def nY(k:Nat)(v:Ah):Ah:={ v with Ae:=v.Ae++[⟨7,(k:Nat)⟩] }
def AEx(k:Nat)(A:1<=k)(B:k<=73049):Dd (Sq k):=⟨AF,bl k U,AF,AF,trivial⟩
def AJs(k:Nat)(D:1<=k)(E:k<=73049):Gv (B7 (Sq k)) (nY k):=by
 intro A rest;refine⟨?_,AF⟩;have hk:(2:Int)=2/\(1:Int)=1/\1<=((k:Nat):Int)/\((k:Nat):Int)<=73049:=⟨rfl,rfl,U,U⟩;have B:(Rd.mk (.n ⟨(k:Nat),1⟩ 2::.w 4 [59]::rest) false).whole 1 73049=(((k:Nat):Int),(⟨.w 4 [59]::rest,false⟩:Rd)):=by
  exact qU
 have C:Cy A ⟨B7 (Sq k)++rest,false⟩=({ A with Ae:=A.Ae++[⟨7,((Rd.mk (.n ⟨(k:Nat),1⟩ 2::.w 4 [59]::rest) false).whole 1 73049).1⟩] },((Rd.mk (.n ⟨(k:Nat),1⟩ 2::.w 4 [59]::rest) false).whole 1 73049).2.want [59]):=AF;rw[C,B];rfl
def Oj(k:Nat):List DX:=[.c [99,114,101,100,105,116,32,99,104,105,108,100,32,108,105,109,105,116,32] [.w 1 [99,114,101,100,105,116],.w 1 [99,104,105,108,100],.w 1 [108,105,109,105,116]],.n (BG k) ⟨(k:Nat),1⟩ 2,.c [59,32] [.w 4 [59]]]
def dG(k:Nat)(v:Ah):Ah:={ v with Ae:=v.Ae++[⟨10,(k:Nat)⟩] }
def AFD(k:Nat)(A:1<=k)(B:k<=73049):Dd (Oj k):=⟨AF,bl k U,AF,AF,trivial⟩
def AJ6(k:Nat)(D:1<=k)(E:k<=73049):Gv (B7 (Oj k)) (dG k):=by
 intro A rest;refine⟨?_,AF⟩;have hk:(2:Int)=2/\(1:Int)=1/\1<=((k:Nat):Int)/\((k:Nat):Int)<=73049:=⟨rfl,rfl,U,U⟩;have B:(Rd.mk (.n ⟨(k:Nat),1⟩ 2::.w 4 [59]::rest) false).whole 1 73049=(((k:Nat):Int),(⟨.w 4 [59]::rest,false⟩:Rd)):=by
  exact qU
 have C:Cy A ⟨B7 (Oj k)++rest,false⟩=({ A with Ae:=A.Ae++[⟨10,((Rd.mk (.n ⟨(k:Nat),1⟩ 2::.w 4 [59]::rest) false).whole 1 73049).1⟩] },((Rd.mk (.n ⟨(k:Nat),1⟩ 2::.w 4 [59]::rest) false).whole 1 73049).2.want [59]):=AF;rw[C,B];rfl
def Ss:List DX:=[.c [99,114,101,100,105,116,32,114,101,115,105,100,101,110,99,101,59,32] [.w 1 [99,114,101,100,105,116],.w 1 [114,101,115,105,100,101,110,99,101],.w 4 [59]]]
def dE(v:Ah):Ah:={ v with Ae:=v.Ae++[⟨5,0⟩] }
def AE2:Dd (Ss):=⟨AF,trivial⟩
def AJx:Gv (B7 (Ss)) (dE):=λA rest=>⟨AF,AF⟩
def Vu:List DX:=[.c [105,110,100,101,120,32,49,57,54,48,32,49,59,32] [.w 1 [105,110,100,101,120],.n ⟨1960,1⟩ 2,.n ⟨1,1⟩ 2,.w 4 [59]]]
def nh(v:Ah):Ah:={ v with Ad:=v.Ad++[⟨1960,⟨1,1⟩⟩] }
def AE9:Dd (Vu):=⟨AF,trivial⟩
def AJ3:Gv (B7 (Vu)) (nh):=λA rest=>⟨AF,AF⟩
def mF(k:Nat)(h:1<=k):0<(B8 k 100).n:=by
 have B:0<Nat.gcd 100 k:=cJ _ U;have A:Nat.gcd 100 k∣k:=RF 100 k;have:0<k / Nat.gcd 100 k:=Nat.div_pos (Tf h A) B;show 0<((k / Nat.gcd 100 k:Nat):Int);exact Int.ofNat_lt.mpr this
def Sv(k:Nat):List DX:=[.c [105,110,100,101,120,32,49,57,56,48,32] [.w 1 [105,110,100,101,120],.n ⟨1980,1⟩ 2],.n (Du k) (B8 k 100) 2,.c [59,32] [.w 4 [59]]]
def ng(k:Nat)(v:Ah):Ah:={ v with Ad:=v.Ad++[⟨1980,B8 k 100⟩] }
def AE8(k:Nat)(A:1<=k)(B:k<1000):Dd (Sv k):=⟨AF,TO k U,AF,AF,trivial⟩
def AJ2(k:Nat)(C:1<=k)(E:k<1000):Gv (B7 (Sv k)) (ng k):=by
 intro A rest;refine⟨?_,AF⟩;have D:(2:Int)=2/\0<(B8 k 100).n:=⟨rfl,mF k C⟩;have B:Cy A ⟨B7 (Sv k)++rest,false⟩=(((if (2:Int)=2/\0<(B8 k 100).n then ({ A with Ad:=A.Ad++[⟨1980,B8 k 100⟩] },(Rd.mk (.w 4 [59]::rest) false)) else ({ A with Ad:=A.Ad++[⟨1980,⟨0,0⟩⟩] },(Rd.mk (.n (B8 k 100) 2::.w 4 [59]::rest) true))):Ah × Rd).1,((if (2:Int)=2/\0<(B8 k 100).n then ({ A with Ad:=A.Ad++[⟨1980,B8 k 100⟩] },(Rd.mk (.w 4 [59]::rest) false)) else ({ A with Ad:=A.Ad++[⟨1980,⟨0,0⟩⟩] },(Rd.mk (.n (B8 k 100) 2::.w 4 [59]::rest) true))):Ah × Rd).2.want [59]):=AF;rw[B,Ab D];rfl
def Su(k:Nat):List DX:=[.c [105,110,100,101,120,32,49,57,57,53,32] [.w 1 [105,110,100,101,120],.n ⟨1995,1⟩ 2],.n (Du k) (B8 k 100) 2,.c [59,32] [.w 4 [59]]]
def nf(k:Nat)(v:Ah):Ah:={ v with Ad:=v.Ad++[⟨1995,B8 k 100⟩] }
def AE7(k:Nat)(A:1<=k)(B:k<1000):Dd (Su k):=⟨AF,TO k U,AF,AF,trivial⟩
def AJ1(k:Nat)(C:1<=k)(E:k<1000):Gv (B7 (Su k)) (nf k):=by
 intro A rest;refine⟨?_,AF⟩;have D:(2:Int)=2/\0<(B8 k 100).n:=⟨rfl,mF k C⟩;have B:Cy A ⟨B7 (Su k)++rest,false⟩=(((if (2:Int)=2/\0<(B8 k 100).n then ({ A with Ad:=A.Ad++[⟨1995,B8 k 100⟩] },(Rd.mk (.w 4 [59]::rest) false)) else ({ A with Ad:=A.Ad++[⟨1995,⟨0,0⟩⟩] },(Rd.mk (.n (B8 k 100) 2::.w 4 [59]::rest) true))):Ah × Rd).1,((if (2:Int)=2/\0<(B8 k 100).n then ({ A with Ad:=A.Ad++[⟨1995,B8 k 100⟩] },(Rd.mk (.w 4 [59]::rest) false)) else ({ A with Ad:=A.Ad++[⟨1995,⟨0,0⟩⟩] },(Rd.mk (.n (B8 k 100) 2::.w 4 [59]::rest) true))):Ah × Rd).2.want [59]):=AF;rw[B,Ab D];rfl
def Vq(k:Nat):List DX:=[.c [108,101,116,32,115,112,101,110,116,32,61,32,105,110,115,117,114,101,100,32,47,32] [.w 1 [108,101,116],.w 1 [115,112,101,110,116],.w 4 [61],.w 1 [105,110,115,117,114,101,100],.w 4 [47]],.n (BG k++[100]) ⟨(k:Nat),1⟩ 3,.c [59,32] [.w 4 [59]]]
def nZ(k:Nat)(v:Ah):Ah:={ v with lets:=v.lets++[⟨[115,112,101,110,116],(.bin 10 (.name [105,110,115,117,114,101,100]) (.lit ⟨(k:Nat),1⟩ 3))⟩] }
def AEz(k:Nat)(A:k<1000000):Dd (Vq k):=⟨AF,TP k U,AF,AF,trivial⟩
def AJu(k:Nat):Gv (B7 (Vq k)) (nZ k):=λA rest=>⟨AF,AF⟩
def Vs(k:Nat):List DX:=[.c [108,101,116,32,112,97,114,116,32,61,32,109,105,110,40,115,112,101,110,116,32,42,32] [.w 1 [108,101,116],.w 1 [112,97,114,116],.w 4 [61],.w 1 [109,105,110],.w 4 [40],.w 1 [115,112,101,110,116],.w 4 [42]],.n (Du k) (B8 k 100) 2,.c [44,32,48,46,56,48,41,59,32] [.w 4 [44],.n ⟨4,5⟩ 2,.w 4 [41],.w 4 [59]]]
def nb(k:Nat)(v:Ah):Ah:={ v with lets:=v.lets++[⟨[112,97,114,116],(.bin 19 (.bin 9 (.name [115,112,101,110,116]) (.lit (B8 k 100) 2)) (.lit ⟨4,5⟩ 2))⟩] }
def AE4(k:Nat)(A:k<1000):Dd (Vs k):=⟨AF,TO k U,AF,AF,trivial⟩
def AJz(k:Nat):Gv (B7 (Vs k)) (nb k):=λA rest=>⟨AF,AF⟩
def Vt(a:Nat)(b:Nat)(c:Nat):List DX:=[.c [103,114,97,110,116,32,111,108,100,32,105,102,32,97,103,101,32,62,61,32] [.w 1 [103,114,97,110,116],.w 1 [111,108,100],.w 1 [105,102],.w 1 [97,103,101],.w 4 [62,61]],.n (BG a) ⟨(a:Nat),1⟩ 2,.c [32,97,110,100,32,105,110,115,117,114,101,100,32,62,61,32] [.w 1 [97,110,100],.w 1 [105,110,115,117,114,101,100],.w 4 [62,61]],.n (BG b++[100]) ⟨(b:Nat),1⟩ 3,.c [32,112,97,121,32,109,97,120,40,98,97,115,101,32,42,32,112,97,114,116,44,32] [.w 1 [112,97,121],.w 1 [109,97,120],.w 4 [40],.w 1 [98,97,115,101],.w 4 [42],.w 1 [112,97,114,116],.w 4 [44]],.n (BG c++[109]) ⟨(c:Nat),1⟩ 4,.c [41,59,32] [.w 4 [41],.w 4 [59]]]
def nd(a:Nat)(b:Nat)(c:Nat)(v:Ah):Ah:={ v with Ac:=v.Ac++[⟨1,(.bin 17 (.bin 16 (.name [97,103,101]) (.lit ⟨(a:Nat),1⟩ 2)) (.bin 16 (.name [105,110,115,117,114,101,100]) (.lit ⟨(b:Nat),1⟩ 3))),(.bin 20 (.bin 9 (.name [98,97,115,101]) (.name [112,97,114,116])) (.lit ⟨(c:Nat),1⟩ 4))⟩] }
def AE5(a:Nat)(b:Nat)(c:Nat)(A:a<1000000)(B:b<1000000)(C:c<1000000):Dd (Vt a b c):=⟨AF,bl a U,AF,AF,TP b U,AF,AF,ll c U,AF,AF,trivial⟩
def AJ0(a:Nat)(b:Nat)(c:Nat):Gv (B7 (Vt a b c)) (nd a b c):=λA rest=>⟨AF,AF⟩
def Vw(a:Nat)(b:Nat):List DX:=[.c [103,114,97,110,116,32,100,105,115,97,98,105,108,105,116,121,32,105,102,32,105,110,115,117,114,101,100,32,62,61,32] [.w 1 [103,114,97,110,116],.w 1 [100,105,115,97,98,105,108,105,116,121],.w 1 [105,102],.w 1 [105,110,115,117,114,101,100],.w 4 [62,61]],.n (BG a++[100]) ⟨(a:Nat),1⟩ 3,.c [32,112,97,121,32,98,97,115,101,32,42,32] [.w 1 [112,97,121],.w 1 [98,97,115,101],.w 4 [42]],.n (Du b) (B8 b 100) 2,.c [59,32] [.w 4 [59]]]
def nj(a:Nat)(b:Nat)(v:Ah):Ah:={ v with Ac:=v.Ac++[⟨2,(.bin 16 (.name [105,110,115,117,114,101,100]) (.lit ⟨(a:Nat),1⟩ 3)),(.bin 9 (.name [98,97,115,101]) (.lit (B8 b 100) 2))⟩] }
def AFC(a:Nat)(b:Nat)(A:a<1000000)(B:b<1000):Dd (Vw a b):=⟨AF,TP a U,AF,AF,TO b U,AF,AF,trivial⟩
def AJ5(a:Nat)(b:Nat):Gv (B7 (Vw a b)) (nj a b):=λA rest=>⟨AF,AF⟩
def Sr:List DX:=[.c [103,114,97,110,116,32,115,117,114,118,105,118,111,114,32,105,102,32,119,111,114,107,101,100,32,43,32,101,113,117,97,116,101,100,32,62,61,32,51,48,100,32,112,97,121,32,98,97,115,101,32,42,32,112,97,114,116,32,42,32,48,46,54,48,59,32] [.w 1 [103,114,97,110,116],.w 1 [115,117,114,118,105,118,111,114],.w 1 [105,102],.w 1 [119,111,114,107,101,100],.w 4 [43],.w 1 [101,113,117,97,116,101,100],.w 4 [62,61],.n ⟨30,1⟩ 3,.w 1 [112,97,121],.w 1 [98,97,115,101],.w 4 [42],.w 1 [112,97,114,116],.w 4 [42],.n ⟨3,5⟩ 2,.w 4 [59]]]
def dC(v:Ah):Ah:={ v with Ac:=v.Ac++[⟨3,(.bin 16 (.bin 7 (.name [119,111,114,107,101,100]) (.name [101,113,117,97,116,101,100])) (.lit ⟨30,1⟩ 3)),(.bin 9 (.bin 9 (.name [98,97,115,101]) (.name [112,97,114,116])) (.lit ⟨3,5⟩ 2))⟩] }
def AEy:Dd (Sr):=⟨AF,trivial⟩
def AJt:Gv (B7 (Sr)) (dC):=λA rest=>⟨AF,AF⟩
def Vv(a:Nat)(b:Nat):List DX:=[.c [103,114,97,110,116,32,102,97,109,105,108,121,32,105,102,32,105,110,115,117,114,101,100,32,62,61,32] [.w 1 [103,114,97,110,116],.w 1 [102,97,109,105,108,121],.w 1 [105,102],.w 1 [105,110,115,117,114,101,100],.w 4 [62,61]],.n (BG a++[100]) ⟨(a:Nat),1⟩ 3,.c [32,112,97,121,32] [.w 1 [112,97,121]],.n (BG b++[109]) ⟨(b:Nat),1⟩ 4,.c [32,42,32,99,104,105,108,100,114,101,110,59,32] [.w 4 [42],.w 1 [99,104,105,108,100,114,101,110],.w 4 [59]]]
def ni(a:Nat)(b:Nat)(v:Ah):Ah:={ v with Ac:=v.Ac++[⟨4,(.bin 16 (.name [105,110,115,117,114,101,100]) (.lit ⟨(a:Nat),1⟩ 3)),(.bin 9 (.lit ⟨(b:Nat),1⟩ 4) (.name [99,104,105,108,100,114,101,110]))⟩] }
def AFB(a:Nat)(b:Nat)(A:a<1000000)(B:b<1000000):Dd (Vv a b):=⟨AF,TP a U,AF,AF,ll b U,AF,AF,trivial⟩
def AJ4(a:Nat)(b:Nat):Gv (B7 (Vv a b)) (ni a b):=λA rest=>⟨AF,AF⟩
def Vr(a:Nat):List DX:=[.c [103,114,97,110,116,32,115,105,99,107,110,101,115,115,32,105,102,32,105,110,115,117,114,101,100,32,62,61,32] [.w 1 [103,114,97,110,116],.w 1 [115,105,99,107,110,101,115,115],.w 1 [105,102],.w 1 [105,110,115,117,114,101,100],.w 4 [62,61]],.n (BG a++[100]) ⟨(a:Nat),1⟩ 3,.c [32,112,97,121,32,98,101,115,116,40,51,41,32,47,32,49,50,32,42,32,48,46,55,48,59,32] [.w 1 [112,97,121],.w 1 [98,101,115,116],.w 4 [40],.n ⟨3,1⟩ 2,.w 4 [41],.w 4 [47],.n ⟨12,1⟩ 2,.w 4 [42],.n ⟨7,10⟩ 2,.w 4 [59]]]
def na(a:Nat)(v:Ah):Ah:={ v with Ac:=v.Ac++[⟨5,(.bin 16 (.name [105,110,115,117,114,101,100]) (.lit ⟨(a:Nat),1⟩ 3)),(.bin 9 (.bin 10 (.EY 3) (.lit ⟨12,1⟩ 2)) (.lit ⟨7,10⟩ 2))⟩] }
def AE0(a:Nat)(A:a<1000000):Dd (Vr a):=⟨AF,TP a U,AF,AF,trivial⟩
def AJv(a:Nat):Gv (B7 (Vr a)) (na a):=λA rest=>⟨AF,AF⟩
def QQ(k:Nat):List DX:=[.c [114,101,100,117,99,101,32,111,108,100,32,98,121,32] [.w 1 [114,101,100,117,99,101],.w 1 [111,108,100],.w 1 [98,121]],.n (Du k) (B8 k 100) 2,.c [59,32] [.w 4 [59]]]
def dD(k:Nat)(v:Ah):Ah:={ v with red:=v.red++[⟨1,(.lit (B8 k 100) 2)⟩] }
def AE1(k:Nat)(A:k<1000):Dd (QQ k):=⟨AF,TO k U,AF,AF,trivial⟩
def AJw(k:Nat):Gv (B7 (QQ k)) (dD k):=λA rest=>⟨AF,AF⟩
def St:List DX:=[.c [114,101,100,117,99,101,32,100,105,115,97,98,105,108,105,116,121,32,98,121,32,105,102,32,97,103,101,32,60,32,54,48,32,116,104,101,110,32,48,46,53,48,32,101,108,115,101,32,49,59,32] [.w 1 [114,101,100,117,99,101],.w 1 [100,105,115,97,98,105,108,105,116,121],.w 1 [98,121],.w 1 [105,102],.w 1 [97,103,101],.w 4 [60],.n ⟨60,1⟩ 2,.w 1 [116,104,101,110],.n ⟨1,2⟩ 2,.w 1 [101,108,115,101],.n ⟨1,1⟩ 2,.w 4 [59]]]
def dF(v:Ah):Ah:={ v with red:=v.red++[⟨2,.ite (.bin 11 (.name [97,103,101]) (.lit ⟨60,1⟩ 2)) (.lit ⟨1,2⟩ 2) (.lit ⟨1,1⟩ 2)⟩] }
def AE3:Dd (St):=⟨AF,trivial⟩
def AJy:Gv (B7 (St)) (dF):=λA rest=>⟨AF,AF⟩
structure Bb where
 mode:Nat
 c1:Nat
 child:Option Nat
 MG:Bool
 i80:Nat
 i95:Nat
 JS:Nat
 rr:Nat
 Ln:Nat
 ins:Nat
 mx:Nat
 Lk:Nat
 LO:Nat
 NF:Bool
 LZ:Nat
 LY:Nat
 LI:Nat
 ro:Option Nat
 rd:Bool
structure Bb.ok(p:Bb):Prop where
 c1:1<=p.c1/\p.c1<=2000
 child:∀k,p.child=some k->1<=k/\k<=2000
 i80:1<=p.i80/\p.i80<1000
 i95:1<=p.i95/\p.i95<1000
 JS:p.JS<10000
 rr:p.rr<1000
 Ln:p.Ln<10000
 ins:p.ins<10000
 mx:p.mx<10000
 Lk:p.Lk<10000
 LO:p.LO<1000
 LZ:p.LZ<10000
 LY:p.LY<10000
 LI:p.LI<10000
 ro:∀k,p.ro=some k->k<1000
abbrev OQ:=List DX × (Ah->Ah)
def Or(o:Option Nat)(f:Nat->OQ):List OQ:=match o with|some k=>[f k]|none=>[]
def Mm(b:Bool)(c:OQ):List OQ:=if b then [c] else []
def Bb.cls(p:Bb):List OQ:=
 [(Vp,nX),(Sq p.c1,nY p.c1)]++Or p.child (λA=>(Oj A,dG A))++Mm p.MG (Ss,dE)
 ++ [(Vu,nh),(Sv p.i80,ng p.i80),(Su p.i95,nf p.i95),(Vq p.JS,nZ p.JS),(Vs p.rr,nb p.rr),(Vt p.Ln p.ins p.mx,nd p.Ln p.ins p.mx),(Vw p.Lk p.LO,nj p.Lk p.LO)]
 ++ Mm p.NF (Sr,dC)++[(Vv p.LZ p.LY,ni p.LZ p.LY),(Vr p.LI,na p.LI)]++Or p.ro (λA=>(QQ A,dD A))++Mm p.rd (St,dF)
def Bb.oY(p:Bb)(h:p.ok):∀x∈p.cls,Dd x.1/\Gv (B7 x.1) x.2:=by
 have F:=h.c1;have K:=h.i80;have L:=h.i95;have M:=h.JS;have N:=h.rr;have O:=h.Ln;have P:=h.ins;have Q:=h.mx;have R:=h.Lk;have G:=h.LO;have H:=h.LZ;have I:=h.LY;have J:=h.LI;intro x A;simp only[Bb.cls,E1,Aj,A',A_] at A;rcases A with (((((((rfl|rfl)|A)|A)|(rfl|rfl|rfl|rfl|rfl|rfl|rfl))|A)|(rfl|rfl))|A)|A
 .exact⟨AEw,AJr⟩
 .exact⟨AEx _ U U,AJs _ U U⟩
 .unfold Or at A;split at A
  .rename_i C B;obtain⟨D,E⟩:=h.child C B;simp only[Aj,A',A_] at A;subst A;exact⟨AFD _ U U,AJ6 _ U U⟩
  .cases A
 .unfold Mm at A;split at A
  .simp only[Aj,A',A_] at A;subst A;exact⟨AE2,AJx⟩
  .cases A
 .exact⟨AE9,AJ3⟩
 .exact⟨AE8 _ U U,AJ2 _ U U⟩
 .exact⟨AE7 _ U U,AJ1 _ U U⟩
 .exact⟨AEz _ U,AJu _⟩
 .exact⟨AE4 _ U,AJz _⟩
 .exact⟨AE5 _ _ _ U U U,AJ0 _ _ _⟩
 .exact⟨AFC _ _ U U,AJ5 _ _⟩
 .unfold Mm at A;split at A
  .simp only[Aj,A',A_] at A;subst A;exact⟨AEy,AJt⟩
  .cases A
 .exact⟨AFB _ _ U U,AJ4 _ _⟩
 .exact⟨AE0 _ U,AJv _⟩
 .unfold Or at A;split at A
  .rename_i C B;have D:=h.ro C B;simp only[Aj,A',A_] at A;subst A;exact⟨AE1 _ U,AJw _⟩
  .cases A
 .unfold Mm at A;split at A
  .simp only[Aj,A',A_] at A;subst A;exact⟨AE3,AJy⟩
  .cases A
def AJY(l:List OQ):∀(f:Nat) (v:Ah) (rest:List Tok),(∀x∈l,Gv (B7 x.1) x.2)->l.length<f->
 Ib f v ⟨l.flatMap (λx=>B7 x.1)++.w 4 [125]::rest,false⟩=(l.foldl (λv x=>x.2 v) v,⟨rest,false⟩):=by
 induction l with
 | nil=>
  intro f v rest _ A;match f,A with
  | f+1,_=>rfl
 | cons x l D=>
  intro f v rest h A;match f,A with
  | f+1,A=>
   obtain⟨B,C⟩:=h x AH v (l.flatMap (λx=>B7 x.1)++.w 4 [125]::rest);simp only[I4,E9,Fh] at B C ⊢;rw[Ib,B,C];refine Ui ?_;exact D f _ _ (λE hy=>h E Ip) (by simp at A;omega)
def Kf:Nat->AE × Nat
 | 0=>([102,114,111,109,32,64,49,57,48,48,45,48,49,45,48,49,32,123,32,114,111,117,110,100,32],0)
 | 1=>([102,114,111,109,32,64,49,57,57,54,45,48,55,45,48,49,32,123,32,114,111,117,110,100,32],35245)
 | _=>([102,114,111,109,32,64,50,48,48,49,45,48,49,45,48,49,32,123,32,114,111,117,110,100,32],36890)
def modes:Nat->AE × List Tok × Int × Int
 | 0=>([100,111,119,110,32,49,59,32],[.w 1 [100,111,119,110],.n ⟨1,1⟩ 2,.w 4 [59]],1,1)
 | 1=>([104,97,108,102,32,53,59,32],[.w 1 [104,97,108,102],.n ⟨5,1⟩ 2,.w 4 [59]],3,5)
 | 2=>([117,112,32,49,59,32],[.w 1 [117,112],.n ⟨1,1⟩ 2,.w 4 [59]],2,1)
 | _=>([101,118,101,110,32,49,48,59,32],[.w 1 [101,118,101,110],.n ⟨10,1⟩ 2,.w 4 [59]],4,10)
def QS(i:Nat):List DX:=[.c (Kf i).1 [.w 1 [102,114,111,109],.d (Kf i).2,.w 4 [123],.w 1 [114,111,117,110,100]]]
def QR(m:Nat):List DX:=[.c (modes m).1 (modes m).2.1]
def Sw:List DX:=[.c [125,32] [.w 4 [125]]]
def AE'(i:Nat):Dd (QS i):=by
 match i with
 | 0=>exact⟨AF,trivial⟩
 | 1=>exact⟨AF,trivial⟩
 | _+2=>exact⟨AF,trivial⟩
def AE6(m:Nat):Dd (QR m):=by
 match m with
 | 0=>exact⟨AF,trivial⟩
 | 1=>exact⟨AF,trivial⟩
 | 2=>exact⟨AF,trivial⟩
 | _+3=>exact⟨AF,trivial⟩
def Bb.IK(p:Bb)(i:Nat):List DX:=QS i++QR p.mode++p.cls.flatMap (·.1)++Sw
def Bb.v0(p:Bb)(i:Nat):Ah:={ fr:=((Kf i).2:Nat),mode:=(modes p.mode).2.2.1,unit:=(modes p.mode).2.2.2 }
def Bb.BB(p:Bb)(i:Nat):Ah:=p.cls.foldl (λA B=>B.2 A) (p.v0 i)
def AFA(l:List OQ)(h:∀x∈l,Dd x.1):Dd (l.flatMap (·.1)):=by
 induction l with
 | nil=>trivial
 | cons x l A=>
  rw[I4];exact Qi _ _ (h x AH) (A (λB hy=>h B Ip))
def yu(l:List OQ):B7 (l.flatMap (·.1))=l.flatMap (λx=>B7 x.1):=by
 induction l with
 | nil=>rfl
 | cons x l A=>rw[I4,I4,Ve,A]
def Bb.lh(p:Bb)(i:Nat)(h:p.ok):Dd (p.IK i):=
 Qi _ _ (Qi _ _ (Qi _ _ (AE' i) (AE6 p.mode)) (AFA _ (λB A=>(p.oY h B A).1))) ⟨AF,trivial⟩
def Bb.AJN(p:Bb):p.cls.length<=20:=by
 have E:∀o D,(Or o D).length<=1:=by intro o D;cases o<;>simp[Or]
 have C:∀B c,(Mm B c).length<=1:=by intro B c;cases B<;>simp[Mm]
 simp only[Bb.cls,Cp,CB,EE];have:=E p.child (λA=>(Oj A,dG A));have:=E p.ro (λA=>(QQ A,dD A));have:=C p.MG (Ss,dE);have:=C p.NF (Sr,dC);have:=C p.rd (St,dF);omega
def AHR(i m:Nat)(rest:List Tok):CY ⟨B7 (QS i)++B7 (QR m)++rest,false⟩=Ib 9000 { fr:=((Kf i).2:Nat),mode:=(modes m).2.2.1,unit:=(modes m).2.2.2 } ⟨rest,false⟩:=by
 rcases i with _|_|i<;>rcases m with _|_|_|m<;>kernel_rfl
def Bb.parse(p:Bb)(i:Nat)(C:p.ok)(rest:List Tok):CY ⟨B7 (p.IK i)++rest,false⟩=(p.BB i,⟨rest,false⟩):=by
 have B:B7 (p.IK i)++rest=B7 (QS i)++B7 (QR p.mode)++(p.cls.flatMap (λA=>B7 A.1)++.w 4 [125]::rest):=by
  simp only[Bb.IK,Ve,yu,Sw,B7,E9,DC,Dg]
 rw[B,AHR];exact AJY p.cls 9000 (p.v0 i) rest (λA D=>(p.oY C A D).2) (by have:=p.AJN;omega)
def RN(k:Nat)(A:Int)(h:k<1000000)(C:2<=A)(D:A<=4):Ej ⟨(k:Nat),1⟩ A=true:=by
 have B:Nat.gcd ((k:Nat):Int).natAbs ((1:Int).toNat)=1:=AH;simp only[Ej,Oe,B,At,CJ,C7];refine⟨⟨⟨⟨⟨⟨⟨⟨⟨?_,?_⟩,?_⟩,?_⟩,?_⟩,?_⟩,?_⟩,?_⟩,?_⟩,?_⟩<;>first|omega|rfl|(simp;done)|(simp;omega)
def T4:∀k,k<1000->Ej (B8 k 100) 2=true:=L_
def CZ:Env:=[([115,112,101,110,116],2),([112,97,114,116],2)]
def XL(k:Nat):AY:=(.bin 10 (.name [105,110,115,117,114,101,100]) (.lit ⟨(k:Nat),1⟩ 3))
def XM(k:Nat):AY:=(.bin 19 (.bin 9 (.name [115,112,101,110,116]) (.lit (B8 k 100) 2)) (.lit ⟨4,5⟩ 2))
def dk(a b:Nat):AY:=(.bin 17 (.bin 16 (.name [97,103,101]) (.lit ⟨(a:Nat),1⟩ 2)) (.bin 16 (.name [105,110,115,117,114,101,100]) (.lit ⟨(b:Nat),1⟩ 3)))
def bT(c:Nat):AY:=(.bin 20 (.bin 9 (.name [98,97,115,101]) (.name [112,97,114,116])) (.lit ⟨(c:Nat),1⟩ 4))
def UF(a:Nat):AY:=(.bin 16 (.name [105,110,115,117,114,101,100]) (.lit ⟨(a:Nat),1⟩ 3))
def bV(b:Nat):AY:=(.bin 9 (.name [98,97,115,101]) (.lit (B8 b 100) 2))
def o5:AY:=(.bin 16 (.bin 7 (.name [119,111,114,107,101,100]) (.name [101,113,117,97,116,101,100])) (.lit ⟨30,1⟩ 3))
def lT:AY:=(.bin 9 (.bin 9 (.name [98,97,115,101]) (.name [112,97,114,116])) (.lit ⟨3,5⟩ 2))
def bU(b:Nat):AY:=(.bin 9 (.lit ⟨(b:Nat),1⟩ 4) (.name [99,104,105,108,100,114,101,110]))
def lU:AY:=(.bin 9 (.bin 10 (.EY 3) (.lit ⟨12,1⟩ 2)) (.lit ⟨7,10⟩ 2))
def dK(k:Nat):AY:=.lit (B8 k 100) 2
def nv:AY:=.ite (.bin 11 (.name [97,103,101]) (.lit ⟨60,1⟩ 2)) (.lit ⟨1,2⟩ 2) (.lit ⟨1,1⟩ 2)
def jG(k:Nat)(h:k<10000):(XL k).BY=true:=by
 have A:(XL k).BY=Ej ⟨(k:Nat),1⟩ 3:=AF;rw[A,RN k 3 U U U]
def jH(k:Nat)(h:k<1000):(XM k).BY=true:=by
 have A:(XM k).BY=(Ej (B8 k 100) 2&&true):=AF;rw[A,T4 k h];rfl
def AFZ(a b:Nat)(B:a<10000)(C:b<10000):Dk CZ (dk a b) 1=true:=by
 have A:Dk CZ (dk a b) 1=((Ej ⟨(a:Nat),1⟩ 2&&Ej ⟨(b:Nat),1⟩ 3)&&true):=AF;rw[A,RN a 2 U U U,RN b 3 U U U];rfl
def AFY(c:Nat)(B:c<10000):Dk CZ (bT c) 4=true:=by
 have A:Dk CZ (bT c) 4=(Ej ⟨(c:Nat),1⟩ 4&&true):=AF;rw[A,RN c 4 U U U];rfl
def bp(a:Nat)(B:a<10000):Dk CZ (UF a) 1=true:=by
 have A:Dk CZ (UF a) 1=(Ej ⟨(a:Nat),1⟩ 3&&true):=AF;rw[A,RN a 3 U U U];rfl
def AFb(b:Nat)(B:b<1000):Dk CZ (bV b) 4=true:=by
 have A:Dk CZ (bV b) 4=(Ej (B8 b 100) 2&&true):=AF;rw[A,T4 b B];rfl
def AFW:Dk CZ o5 1=true:=AF
def AFV:Dk CZ lT 4=true:=AF
def AFa(b:Nat)(B:b<10000):Dk CZ (bU b) 4=true:=by
 have A:Dk CZ (bU b) 4=((Ej ⟨(b:Nat),1⟩ 4&&true)&&true):=AF;rw[A,RN b 4 U U U];rfl
def l_:Dk CZ lU 4=true:=AF
def AFX(k:Nat)(h:k<1000):Dk CZ (dK k) 2=true:=by
 have A:Dk CZ (dK k) 2=(Ej (B8 k 100) 2&&true):=AF;rw[A,T4 k h];rfl
def mA:Dk CZ nv 2=true:=AF
def bn{B:Env}{e:AY}{d:Int}(A:Dk B e d=true):e.BY=true:=by
 simp only[Dk,At] at A;exact A.1
def Qn(p:Bb):List Fm:=[⟨[115,112,101,110,116],XL p.JS⟩,⟨[112,97,114,116],XM p.rr⟩]
def AGN(p:Bb)(B:p.JS<10000)(C:p.rr<1000):G5 (Qn p) []=some CZ:=by
 have A:G5 (Qn p) []=(if (!(XL p.JS).BY)=true then none else if (!(XM p.rr).BY)=true then none else some CZ):=AF;rw[A,jG _ B,jH _ C];rfl
def Bb.Ae(p:Bb):List M7:=[⟨6,0⟩,⟨7,(p.c1:Nat)⟩]++(match p.child with|some k=>[⟨10,(k:Nat)⟩]|none=>[])++(if p.MG then [⟨5,0⟩] else [])
def Bb.Ad(p:Bb):List N3:=[⟨1960,⟨1,1⟩⟩,⟨1980,B8 p.i80 100⟩,⟨1995,B8 p.i95 100⟩]
def Bb.Ac(p:Bb):List K9:=[⟨1,dk p.Ln p.ins,bT p.mx⟩,⟨2,UF p.Lk,bV p.LO⟩]++(if p.NF then [⟨3,o5,lT⟩] else [])++[⟨4,UF p.LZ,bU p.LY⟩,⟨5,UF p.LI,lU⟩]
def Bb.red(p:Bb):List Kx:=(match p.ro with|some k=>[⟨1,dK k⟩]|none=>[])++(if p.rd then [⟨2,nv⟩] else [])
def Bb.aE(p:Bb)(i:Nat):p.BB i = { fr:=((Kf i).2:Nat),mode:=(modes p.mode).2.2.1,unit:=(modes p.mode).2.2.2,Ae:=p.Ae,Ad:=p.Ad,lets:=Qn p,Ac:=p.Ac,red:=p.red }:=by
 obtain⟨mode,G,A,C,K,L,R,P,F,M,N,H,O,E,I,J,Q,D,B⟩:=p;cases A<;>cases C<;>cases E<;>cases D<;>cases B<;>kernel_rfl
def Bb.oP(p:Bb)(h:p.ok):p.Ae.all (λc=>Ee 1 c.kind&&decide (0<=c.limit)&&decide (c.limit<=73049))=true/\p.Ae.length<=6/\distinct (p.Ae.map (·.kind))=true:=by
 obtain⟨I,J⟩:=h.c1;have E:=h.child;have C:Ee 1 6=true:=AD;have D:Ee 1 7=true:=AD;have H:Ee 1 10=true:=AD;have B:Ee 1 5=true:=AD;have A:decide ((p.c1:Int)<=73049)=true:=AM;unfold Bb.Ae;cases F:p.child with
 | none=>cases p.MG<;>refine⟨?_,AH,AF⟩<;>simp[C,D,B,A]<;>omega
 | some G=>
  obtain⟨K,L⟩:=E G F;cases p.MG<;>refine⟨?_,AH,AF⟩<;>simp[C,D,B,H,A]<;>omega
def mG:∀k,k<1000->1<=k->(decide (1<=(B8 k 100).n))=true:=L_
def Bb.nQ(p:Bb)(h:p.ok):p.Ac.all (λg=>Dk CZ g.cond 1&&Dk CZ g.pay 4)=true/\p.Ac.all (λg=>Ee 2 g.CN)=true/\p.Ac.length<=5/\distinct (p.Ac.map (·.CN))=true:=by
 have A:=AFZ p.Ln p.ins h.Ln h.ins;have B:=AFY p.mx h.mx;have C:=bp p.Lk h.Lk;have D:=AFb p.LO h.LO;have E:=bp p.LZ h.LZ;have F:=AFa p.LY h.LY;have G:=bp p.LI h.LI;unfold Bb.Ac;cases p.NF
 .refine⟨?_,xJ,AH,xJ⟩;simp[A,B,C,D,E,F,G,l_]
 .refine⟨?_,wF,AH,wF⟩;simp[A,B,C,D,E,F,G,l_,AFW,AFV]
def Bb.kU(p:Bb)(h:p.ok):p.red.all (λg=>Dk CZ g.H5 2)=true/\p.red.all (λg=>Ee 2 g.CN)=true/\p.red.length<=5/\distinct (p.red.map (·.CN))=true:=by
 have D:=h.ro;unfold Bb.red;cases C:p.ro with
 | none=>
  cases p.rd
  .exact⟨rfl,rfl,AH,rfl⟩
  .refine⟨by simp[mA],AF,AH,AF⟩
 | some B=>
  have A:=AFX B (D B C);cases p.rd
  .refine⟨by simp[A],AF,AH,AF⟩
  .refine⟨by simp[A,mA],AF,AH,AF⟩
def Bb.AFn(m:Nat):1<=(modes m).2.2.1/\(modes m).2.2.1<=4/\1<=(modes m).2.2.2/\(modes m).2.2.2<=100000:=by
 match m with
 | 0=>decide
 | 1=>decide
 | 2=>decide
 | _+3=>exact⟨ZD,ZD,ZD,ZD⟩
def AHk(i:Nat):(Kf i).2<=73048:=by
 match i with
 | 0=>decide
 | 1=>decide
 | _+2=>simp[Kf]
def Bb.ME(p:Bb)(i:Nat)(h:p.ok):ME (p.BB i)=true:=by
 obtain⟨G,H,A⟩:=p.oP h;obtain⟨B,I,J,C⟩:=p.nQ h;obtain⟨E,K,L,F⟩:=p.kU h;rw[p.aE];have D:rising (p.Ad.map (·.year))=true:=AF;simp only[Proofs.YtcpcgpbohiineaaGreatDoor.ME,AGN p h.JS h.rr,A,D,C,F,B,E,Qw]
def Bb.IF(p:Bb)(i:Nat)(h:p.ok):IF (p.BB i)=true:=by
 obtain⟨K,L,b⟩:=p.oP h;obtain⟨E,F,M,c⟩:=p.nQ h;obtain⟨I,J,a,e⟩:=p.kU h;obtain⟨T,U,V,W⟩:=Bb.AFn p.mode;have d:=AHk i;obtain⟨R,G⟩:=h.i80;obtain⟨S,H⟩:=h.i95;rw[p.aE];have Q:p.Ad.all (λA=>decide (1900<=A.year)&&decide (A.year<=2099)&&Ej A.f 2&&decide (1<=A.f.n))=true:=by
  have Z:Ej ⟨1,1⟩ 2=true:=AF;simp[Bb.Ad,T4 _ G,T4 _ H,Z];exact⟨by simpa using mG _ G R,by simpa using mG _ H S⟩
 have O:(Qn p).all (λA=>FJ A.name&&A.body.BY)=true:=by
  have X:FJ [115,112,101,110,116]=true:=AF;have Y:FJ [112,97,114,116]=true:=AF;simp[Qn,X,Y,jG _ h.JS,jH _ h.rr]
 have N:p.Ac.all (λB=>Ee 2 B.CN&&B.cond.BY&&B.pay.BY)=true:=by
  rw[DS] at E F ⊢;intro A C;have D:=E A C;simp only[At] at D;simp only[F A C,bn D.1,bn D.2,Qw]
 have P:p.red.all (λB=>Ee 2 B.CN&&B.H5.BY)=true:=by
  rw[DS] at I J ⊢;intro A C;simp only[J A C,bn (I A C),Qw]
 simp only[Proofs.YtcpcgpbohiineaaGreatDoor.IF,K,Q,O,N,P,Bool.and_true,At,CJ];refine⟨⟨⟨⟨⟨⟨⟨⟨⟨⟨?_,?_⟩,T⟩,U⟩,V⟩,W⟩,L⟩,by simp[Bb.Ad]⟩,by simp[Qn]⟩,M⟩,a⟩<;>omega
def oN(l:AE):l.length<=(DO l).1.length+1:=by
 unfold DO;split<;>simp<;>omega
def dM(l:AE):l.length=(l.takeWhile B4).length+(l.dropWhile B4).length:=by
 have A:=congrArg List.length (cM (p:=B4) (l:=l));rw[Cp] at A;exact A.symm
def eB(l:AE)(A:0<(l.dropWhile B4).length):l.any (λc=>c==46)=true:=by
 induction l with
 | nil=>simp at A
 | cons c l C=>
  simp only[Tg] at A;simp only[Qy,Ki];by_cases B:B4 c=true
  .rw[Ab B] at A;exact .inr (C A)
  .left;unfold B4 at B;simpa using B
def lN(l:AE)(h:(G3 l).isSome=true):l.length<=15:=by
 have D:=oN l;have E:=dM (DO l).1;unfold G3 at h;simp only at h;split at h
 .cases h
 .rename_i A;split at h
  .cases h
  .split at h
   .cases h
   .rename_i B;simp only[Ki,CJ,not_or] at B;by_cases C:0<((DO l).1.dropWhile B4).length
    .have ha:=eB _ C;simp only[ha,Nm,Ki,CJ,not_or] at A;have:(((DO l).1.dropWhile B4).drop 1).length=((DO l).1.dropWhile B4).length-1:=AH;omega
    .omega
def Gn:List DX->Nat
 | []=>0
 | .c l _::r=>l.length+Gn r
 | .n _ _ _::r=>15+Gn r
def dn(a b:List DX):Gn (a++b)=Gn a+Gn b:=by
 induction a with
 | nil=>simp[Gn]
 | cons B a A=>cases B<;>simp[Gn,A]<;>omega
def nT(s:List DX)(A:Dd s):(flat s).length<=Gn s:=by
 induction s with
 | nil=>simp[flat]
 | cons s D B=>
  cases s with
  | c C F=>have:=B A.2;simp only[flat,Gn,Cp];omega
  | n C G E=>have:=B A.2.2;have:=lN C A.1.1.2.2;simp only[flat,Gn,Cp];omega
def AKQ(i:Nat):Gn (QS i)<=40:=by
 match i with
 | 0=>exact Jt AF
 | 1=>exact Jt AF
 | _+2=>exact Jt AF
def AKP(m:Nat):Gn (QR m)<=20:=by
 match m with
 | 0=>exact Jt AF
 | 1=>exact Jt AF
 | 2=>exact Jt AF
 | _+3=>exact Jt AF
def AKR(p:Bb):Gn (p.cls.flatMap (·.1))<=1800:=by
 obtain⟨mode,G,A,C,K,L,R,P,F,M,N,H,O,E,I,J,Q,D,B⟩:=p;cases A<;>cases C<;>cases E<;>cases D<;>cases B<;>exact Jt AF
def pD(p:Bb)(i:Nat):Gn (p.IK i)<=2000:=by
 have A:=AKQ i;have B:=AKP p.mode;have C:=AKR p;have D:Gn Sw=2:=AF;simp only[Bb.IK,dn];omega
def Sd(l:AE)(kind:Int)(n:Nat)(A:HS l=some (kind,n)):1<=n:=by
 cases l with
 | nil=>cases A
 | cons c G=>
  have B:∀C,HY c=true->1<=runN C (c::G):=by
   intro C D;simp[runN,D]
  simp only[HS] at A;split at A
  .rename_i F;split at A
   .cases A;exact B _ (by simp[HY,F])
   .cases A
  .split at A
   .rename_i E;split at A
    .cases A;exact B _ (by simp[HY,E])
    .cases A
   .split at A
    .split at A
     .cases A;omega
     .cases A
    .split at A
     .cases A;omega
     .cases A
def AGF(g:Nat):∀(l:AE) (t:List Tok) (f:Nat),GB g l=some t->l.length<f->GB f l=some t:=by
 induction g with
 | zero=>intro l t f h;cases h
 | succ g E=>
  intro l t f h B;match f,B with
  | f+1,B=>
   rw[GB] at h ⊢;split
   .rename_i e;rw[e] at h;exact h
   .rename_i c F e;rw[e] at h;have D:(c::F).length<=l.length:=gK;simp only at h ⊢;split
    .rename_i A;rw[A] at h;cases h
    .rename_i kind H A;rw[A] at h;have G:=Sd _ _ _ A;simp only[I6] at h ⊢;obtain⟨C,ha,rfl⟩:=h;refine⟨C,E _ _ _ ha ?_,rfl⟩;simp only[EM,CB] at D ⊢;omega
def nameOf:Nat->AE
 | 0=>[97,108,98,97]
 | 1=>[98,111,114,97]
 | _=>[99,101,100,97,114]
def cg:Nat->AE
 | 0=>[115,116,97,116,117,116,101,32,97,108,98,97,32,99,117,114,114,101,110,99,121,32,49,32,123,32]
 | 1=>[115,116,97,116,117,116,101,32,98,111,114,97,32,99,117,114,114,101,110,99,121,32,50,32,123,32]
 | _=>[115,116,97,116,117,116,101,32,99,101,100,97,114,32,99,117,114,114,101,110,99,121,32,51,32,123,32]
def Ns:Nat->Nat
 | 0=>1
 | 1=>2
 | _=>3
def s_head(s:Nat):List DX:=[.c (cg s) [.w 1 [115,116,97,116,117,116,101],.w 1 (nameOf s),.w 1 [99,117,114,114,101,110,99,121],.n ⟨(Ns s:Nat),1⟩ 2,.w 4 [123]]]
def AE_(s:Nat):Dd (s_head s):=by
 match s with
 | 0=>exact⟨AF,trivial⟩
 | 1=>exact⟨AF,trivial⟩
 | _+2=>exact⟨AF,trivial⟩
abbrev Mp:=List (Bb × Nat)
def Gy(l:Mp):List DX:=l.flatMap (λA=>A.1.IK A.2)
def Oh(s:Nat)(l:Mp):AE:=flat (s_head s++Gy l)++[125]
def NG(s:Nat)(l:Mp):CL:=⟨nameOf s,(Ns s:Nat),l.map (λA=>A.1.BB A.2)⟩
def AEv(l:Mp)(h:∀x∈l,x.1.ok):Dd (Gy l)/\Gn (Gy l)<=2000*l.length:=by
 induction l with
 | nil=>exact⟨trivial,by simp[Gy,Gn]⟩
 | cons x l C=>
  obtain⟨B,E⟩:=C (λD hy=>h D Ip);have A:Gy (x::l)=x.1.IK x.2++Gy l:=by simp[Gy]
  rw[A];refine⟨Qi _ _ (x.1.lh x.2 (h x AH)) B,?_⟩;have:=pD x.1 x.2;rw[dn,CB];omega
def AHl(p:Bb)(i:Nat)(rest:List Tok):(Rd.mk (B7 (p.IK i)++rest) false).Am [125]=false:=AF
def yP(l:Mp):∀(f:Nat) (B:List Ah),(∀x∈l,x.1.ok)->l.length<f->
 FF f B ⟨B7 (Gy l)++[.w 4 [125]],false⟩=(B++l.map (λx=>x.1.BB x.2),⟨[],false⟩):=by
 induction l with
 | nil=>
  intro f B _ A;match f,A with
  | f+1,_=>simp only[Q0,El];rfl
 | cons x l D=>
  intro f B h A;match f,A with
  | f+1,A=>
   have C:B7 (Gy (x::l))++[.w 4 [125]]=B7 (x.1.IK x.2)++(B7 (Gy l)++[.w 4 [125]]):=by
    exact p9
   rw[C,FF,AHl,x.1.parse x.2 (h x AH)];refine Ui ?_;rw[D f _ (λE hy=>h E Ip) (by simp at A;omega)];simp
def l8(s:Nat):FJ (nameOf s)=true/\1<=(Ns s:Int)/\(Ns s:Int)<=999:=by
 match s with
 | 0=>exact⟨AF,AD,AD⟩
 | 1=>exact⟨AF,AD,AD⟩
 | _+2=>exact⟨AF,by simp[Ns],by simp[Ns]⟩
def yB(c:Nat)(q:List Tok)(A:1<=(c:Int))(B:(c:Int)<=999):(Rd.mk (.n ⟨(c:Nat),1⟩ 2::q) false).whole 1 999=((c:Int),(⟨q,false⟩:Rd)):=by
 unfold Rd.whole;refine Ui ?_;rw[Ab ⟨trivial,trivial,A,B⟩];rfl
def AFT(A:AE)(q:List Tok)(h:FJ A=true):(Rd.mk (.w 1 A::q) false).name=(A,(⟨q,false⟩:Rd)):=by
 unfold Rd.name;refine Ui ?_;rw[Ab ⟨trivial,h⟩];rfl
def yC(s:AE)(k:Int)(q:List Tok):(Rd.mk (.w k s::q) false).want s=(⟨q,false⟩:Rd):=by
 simp[Rd.want,Rd.Am,Rd.AX]
def ABs(A:AE)(c:Nat)(rest:List Tok)(B:FJ A=true)(C:1<=(c:Int))(D:(c:Int)<=999):
 NM (.w 1 Re::.w 1 A::.w 1 Rc::.n ⟨(c:Nat),1⟩ 2::.w 4 [123]::rest) =
 (if (FF 9000 [(CY ⟨rest,false⟩).1] (CY ⟨rest,false⟩).2).2.bad || !(FF 9000 [(CY ⟨rest,false⟩).1] (CY ⟨rest,false⟩).2).2.l.isEmpty then none else some ⟨A,(c:Nat),(FF 9000 [(CY ⟨rest,false⟩).1] (CY ⟨rest,false⟩).2).1⟩):=by
 unfold NM;simp only[yC,AFT _ _ B,yB _ _ C D,DW,DV]
def AHS(s:Nat)(rest:List Tok):NM (B7 (s_head s)++rest) =
 (if (FF 9000 [(CY ⟨rest,false⟩).1] (CY ⟨rest,false⟩).2).2.bad || !(FF 9000 [(CY ⟨rest,false⟩).1] (CY ⟨rest,false⟩).2).2.l.isEmpty then none else some ⟨nameOf s,(Ns s:Nat),(FF 9000 [(CY ⟨rest,false⟩).1] (CY ⟨rest,false⟩).2).1⟩):=by
 obtain⟨A,B,c⟩:=l8 s;exact ABs (nameOf s) (Ns s) rest A B c
def jf(s:Nat)(l:Mp)(h:∀x∈l,x.1.ok)(D:1<=l.length)(F:l.length<=3):KO (NG s l)=true:=by
 obtain⟨B,C,c⟩:=l8 s;have A:(l.map (λx=>x.1.BB x.2)).all IF=true:=by
  rw[DS];intro G A;rw[Gr] at A;obtain⟨x,E,rfl⟩:=A;exact x.1.IF x.2 (h x E)
 simp only[KO,NG,B,A,Lj,Bool.and_true,Nm,At,CJ];exact⟨⟨⟨CA C,CA c⟩,D⟩,U⟩
def zW(s:Nat)(l:Mp)(B:∀x∈l,x.1.ok)(C:1<=l.length)(D:l.length<=3)(G:rising (l.map (λx=>((Kf x.2).2:Int)))=true):NH (NG s l)=true:=by
 have A:(l.map (λx=>x.1.BB x.2)).all ME=true:=by
  rw[DS];intro I A;rw[Gr] at A;obtain⟨x,H,rfl⟩:=A;exact x.1.ME x.2 (B x H)
 have F:(l.map (λx=>x.1.BB x.2)).map (·.fr)=l.map (λx=>((Kf x.2).2:Int)):=by
  rw[List.map_map];refine List.map_congr_left (λx _=>?_);simp only[Function.comp_apply,Bb.aE]
 have E:=jf s l B C D;simp only[NH,E,Nm,At];exact⟨by rw[show(NG s l).A0=l.map (λx=>x.1.BB x.2) from rfl,F];exact G,A⟩
def zX(s:Nat)(l:Mp)(h:∀x∈l,x.1.ok)(A:1<=l.length)(B:l.length<=3):TF (Oh s l)=some (NG s l):=by
 obtain⟨I,M⟩:=AEv l h;have D:Dd (s_head s++Gy l):=Qi _ _ (AE_ s) I;have K:Gn (s_head s)<=60:=by
  match s with
  | 0=>exact Jt AF
  | 1=>exact Jt AF
  | _+2=>exact Jt AF
 have L:(Oh s l).length<=8000:=by
  have:=nT _ D;rw[dn] at this;simp only[Oh,Cp,CB,EE];omega
 obtain⟨F,G⟩:=AGA (s_head s++Gy l) [125] [.w 4 [125]] 5 D AF;have C:=AGF F _ _ ((Oh s l).length+1) G (Nat.lt_succ_self _);have H:NM (B7 (s_head s++Gy l)++[.w 4 [125]])=some (NG s l):=by
  rw[Ve,E9,AHS];cases l with
  | nil=>simp at A
  | cons x l=>
   have E:B7 (Gy (x::l))++[.w 4 [125]]=B7 (x.1.IK x.2)++(B7 (Gy l)++[.w 4 [125]]):=by
    exact p9
   rw[E,x.1.parse x.2 (h x AH)];simp only;rw[yP l 9000 _ (λJ hy=>h J Ip) (by simp at B;omega)];simp[NG]
 unfold TF;rw[AU U];unfold Oh at C ⊢;rw[C];simp only;rw[H];simp only;rw[Ab (jf s l h A B)]
def TB(fr:AE):AE:=([102,114,111,109,32,64]++fr)++[32,123,32,114,111,117,110,100,32]
def ML(fr:AE)(p:Bb):AE:=TB fr++(modes p.mode).1
def S'(fr:AE)(p:Bb):AE:=ML fr p++(([99,114,101,100,105,116,32,118,111,108,117,110,116,97,114,121,59,32,99,114,101,100,105,116,32,117,110,101,109,112,108,111,121,101,100,32,108,105,109,105,116,32]++(BG p.c1))++[59,32])
def IN(fr:AE)(p:Bb):AE:=match p.child with|some k=>S' fr p++(([99,114,101,100,105,116,32,99,104,105,108,100,32,108,105,109,105,116,32]++(BG k))++[59,32])|none=>S' fr p
def KR(fr:AE)(p:Bb):AE:=if p.MG then IN fr p++[99,114,101,100,105,116,32,114,101,115,105,100,101,110,99,101,59,32] else IN fr p
def kq(fr:AE)(p:Bb):AE:=KR fr p++(((([105,110,100,101,120,32,49,57,54,48,32,49,59,32,105,110,100,101,120,32,49,57,56,48,32]++(Du p.i80))++[59,32,105,110,100,101,120,32,49,57,57,53,32])++(Du p.i95))++[59,32])
def kp(fr:AE)(p:Bb):AE:=kq fr p++(((([108,101,116,32,115,112,101,110,116,32,61,32,105,110,115,117,114,101,100,32,47,32]++(BG p.JS))++[100,59,32,108,101,116,32,112,97,114,116,32,61,32,109,105,110,40,115,112,101,110,116,32,42,32])++(Du p.rr))++[44,32,48,46,56,48,41,59,32])
def ko(fr:AE)(p:Bb):AE:=kp fr p++(((((([103,114,97,110,116,32,111,108,100,32,105,102,32,97,103,101,32,62,61,32]++(BG p.Ln))++[32,97,110,100,32,105,110,115,117,114,101,100,32,62,61,32])++(BG p.ins))++[100,32,112,97,121,32,109,97,120,40,98,97,115,101,32,42,32,112,97,114,116,44,32])++(BG p.mx))++[109,41,59,32])
def S_(fr:AE)(p:Bb):AE:=ko fr p++(((([103,114,97,110,116,32,100,105,115,97,98,105,108,105,116,121,32,105,102,32,105,110,115,117,114,101,100,32,62,61,32]++(BG p.Lk))++[100,32,112,97,121,32,98,97,115,101,32,42,32])++(Du p.LO))++[59,32])
def KQ(fr:AE)(p:Bb):AE:=if p.NF then S_ fr p++[103,114,97,110,116,32,115,117,114,118,105,118,111,114,32,105,102,32,119,111,114,107,101,100,32,43,32,101,113,117,97,116,101,100,32,62,61,32,51,48,100,32,112,97,121,32,98,97,115,101,32,42,32,112,97,114,116,32,42,32,48,46,54,48,59,32] else S_ fr p
def kr(fr:AE)(p:Bb):AE:=KQ fr p++(((([103,114,97,110,116,32,102,97,109,105,108,121,32,105,102,32,105,110,115,117,114,101,100,32,62,61,32]++(BG p.LZ))++[100,32,112,97,121,32])++(BG p.LY))++[109,32,42,32,99,104,105,108,100,114,101,110,59,32])
def TA(fr:AE)(p:Bb):AE:=kr fr p++(([103,114,97,110,116,32,115,105,99,107,110,101,115,115,32,105,102,32,105,110,115,117,114,101,100,32,62,61,32]++(BG p.LI))++[100,32,112,97,121,32,98,101,115,116,40,51,41,32,47,32,49,50,32,42,32,48,46,55,48,59,32])
def IOo(fr:AE)(p:Bb):AE:=match p.ro with|some k=>TA fr p++(([114,101,100,117,99,101,32,111,108,100,32,98,121,32]++(Du k))++[59,32])|none=>TA fr p
def KS(fr:AE)(p:Bb):AE:=if p.rd then IOo fr p++[114,101,100,117,99,101,32,100,105,115,97,98,105,108,105,116,121,32,98,121,32,105,102,32,97,103,101,32,60,32,54,48,32,116,104,101,110,32,48,46,53,48,32,101,108,115,101,32,49,59,32] else IOo fr p
def MK(fr:AE)(p:Bb):AE:=KS fr p++[125,32]
def FO:Nat->AE
 | 0=>[49,57,48,48,45,48,49,45,48,49]
 | 1=>[49,57,57,54,45,48,55,45,48,49]
 | _=>[50,48,48,49,45,48,49,45,48,49]
def ACP(i:Nat):TB (FO i)=(Kf i).1:=by
 rcases i with _|_|i<;>kernel_rfl
def Tb:AE:=[99,114,101,100,105,116,32,99,104,105,108,100,32,108,105,109,105,116,32]
def TZ:AE:=[114,101,100,117,99,101,32,111,108,100,32,98,121,32]
def WV:AE:=[99,114,101,100,105,116,32,114,101,115,105,100,101,110,99,101,59,32]
def WU:AE:=[103,114,97,110,116,32,115,117,114,118,105,118,111,114,32,105,102,32,119,111,114,107,101,100,32,43,32,101,113,117,97,116,101,100,32,62,61,32,51,48,100,32,112,97,121,32,98,97,115,101,32,42,32,112,97,114,116,32,42,32,48,46,54,48,59,32]
def WW:AE:=[114,101,100,117,99,101,32,100,105,115,97,98,105,108,105,116,121,32,98,121,32,105,102,32,97,103,101,32,60,32,54,48,32,116,104,101,110,32,48,46,53,48,32,101,108,115,101,32,49,59,32]
def km(p:Bb)(i:Nat):MK (FO i) p=flat (p.IK i):=by
 have V:flat (p.IK i)=(Kf i).1++((modes p.mode).1++flat (p.cls.flatMap (·.1)++Sw)):=by
  simp only[Bb.IK,QS,QR,flat,cz,El,E9]
 rw[V,<-ACP];obtain⟨mode,E,B,O,I,J,S,P,D,K,L,F,M,R,G,H,Q,C,N⟩:=p;have W:ML (FO i) ⟨mode,E,B,O,I,J,S,P,D,K,L,F,M,R,G,H,Q,C,N⟩=TB (FO i)++(modes mode).1:=rfl;simp only[MK,KS,IOo,TA,kr,KQ,S_,ko,kp,kq,KR,IN,S',W];generalize TB (FO i)=a;generalize (modes mode).1=b;simp only[Bb.cls,cz,List.flatMap_append,I4,List.flatMap_nil,El,Vp,Sq,Vu,Sv,Su,Vq,Vs,Vt,Vw,Vv,Vr,Sw,flat,E9];generalize BG E=c;generalize Du I=j;generalize Du J=k;generalize BG S=l;generalize Du P=m;generalize BG D=n;generalize BG K=o;generalize BG L=q;generalize BG F=r;generalize Du M=d;generalize BG G=e;generalize BG H=f;generalize BG Q=g;have T:∀A,flat (Oj A)=Tb++(BG A++[59,32]):=λA=>by simp only[Oj,flat,El,Tb]
 have U:∀A,flat (QQ A)=TZ++(Du A++[59,32]):=λA=>by simp only[QQ,flat,El,TZ]
 have X:flat Ss=WV:=AF;have Y:flat Sr=WU:=AF;have Z:flat St=WW:=AF;rcases B with _|B<;>rcases O with _|_<;>rcases R with _|_<;>rcases C with _|C<;>rcases N with _|_<;>
  (simp only[Or,Mm,T,U,X,Y,Z,flat,I4,List.flatMap_nil,El,Dg,E9,CI,DV,DW];show _=_;kernel_rfl)
def Fz(n:Ay)(i:Nat):Int:=n.getD (i%n.length) 0
def Al(n:Ay)(i m:Nat):Nat:=(Fz n i%(m:Int)).toNat
def FH(n:Ay)(i m:Nat)(A:0<m):Al n i m<m:=by
 unfold Al;have B:=RA (Fz n i) (show(m:Int)≠0 by omega);have C:=Q' (Fz n i) (show(0:Int)<(m:Int) by omega);omega
def BN(n:Ay)(a:Nat):Bb where
 mode:=Al n (a+1) 4
 c1:=1+Al n (a+2) 900
 child:=if 0<Al n (a+3) 3 then some (100+Al n (a+3) 1000) else none
 MG:=Al n (a+4) 4==0
 i80:=100+Al n (a+5) 300
 i95:=400+Al n (a+6) 300
 JS:=300+Al n a 90
 rr:=1+Al n (a+7) 4
 Ln:=50+Al n (a+8) 12
 ins:=Al n (a+9) 6000
 mx:=Al n (a+10) 900
 Lk:=Al n (a+11) 2000
 LO:=20+Al n (a+12) 60
 NF:=decide (0<Al n (a+13) 5)
 LZ:=Al n (a+14) 800
 LY:=10+Al n (a+15) 300
 LI:=Al n (a+16) 400
 ro:=if 0<Al n (a+17) 3 then some (10*Al n (a+17) 11) else none
 rd:=Al n (a+18) 3==0
def VU(n:Ay)(a:Nat):(BN n a).ok:=by
 have h:=λB D h=>FH n B D h;constructor<;>simp only[BN]
 .have:=h (a+2) 900 U;omega
 .intro C A;split at A
  .cases A;have:=h (a+3) 1000 U;omega
  .cases A
 .have:=h (a+5) 300 U;omega
 .have:=h (a+6) 300 U;omega
 .have:=h a 90 U;omega
 .have:=h (a+7) 4 U;omega
 .have:=h (a+8) 12 U;omega
 .have:=h (a+9) 6000 U;omega
 .have:=h (a+10) 900 U;omega
 .have:=h (a+11) 2000 U;omega
 .have:=h (a+12) 60 U;omega
 .have:=h (a+14) 800 U;omega
 .have:=h (a+15) 300 U;omega
 .have:=h (a+16) 400 U;omega
 .intro C A;split at A
  .cases A;have:=h (a+17) 11 U;omega
  .cases A
def LF(n:Ay)(s:Nat):Mp:=
 (BN n (7*s),0)::((if 0<Al n (31+s) 3 then [(BN n (7*s+3),1)] else [])++(if Al n (37+s) 3=0 then [(BN n (7*s+5),2)] else []))
def textOf(n:Ay)(s:Nat):AE:=Oh s (LF n s)
def NC(n:Ay)(s:Nat):CL:=NG s (LF n s)
def QJ(n:Ay)(s:Nat):(∀x∈LF n s,x.1.ok)/\1<=(LF n s).length/\(LF n s).length<=3:=by
 refine⟨?_,?_,?_⟩
 .intro x A;unfold LF at A;rcases Aj.1 A with rfl|A
  .exact VU _ _
  .rcases E1.1 A with A|A<;>split at A<;>simp only[Aj,A',A_] at A
   .subst A;exact VU _ _
   .subst A;exact VU _ _
 .unfold LF;simp
 .unfold LF;split<;>split<;>simp
def y_(n:Ay)(s:Nat):TF (textOf n s)=some (NC n s):=zX s _ (QJ n s).1 (QJ n s).2.1 (QJ n s).2.2
def yq(n:Ay)(s:Nat):NH (NC n s)=true:=by
 refine zW s _ (QJ n s).1 (QJ n s).2.1 (QJ n s).2.2 ?_;unfold LF;split<;>split<;>kernel_rfl
def hd0(s:Nat):AE:=cg s
def Vg(n:Ay)(s:Nat):textOf n s=((cg s++MK (FO 0) (BN n (7*s)))++(if 0<Al n (31+s) 3 then MK (FO 1) (BN n (7*s+3)) else [])++(if Al n (37+s) 3=0 then MK (FO 2) (BN n (7*s+5)) else []))++[125]:=by
 unfold textOf Oh LF Gy;simp only[km,s_head,cz,flat,I4,List.flatMap_append,E9,El];split<;>split<;>simp[flat]
abbrev AR(s:AE):AB:=.string ⟨s.toArray⟩
def jT(n m:Int)(h:0<m):n.tmod m=if 0<=n\/n%m=0 then n%m else n%m-m:=by
 exact sV
def y7(n m:Int)(h:0<m): -m<n.tmod m/\n.tmod m<m:=by
 rw[jT n m h];exact rO
def dI(n m:Int)(h:0<m):0<=n%m/\n%m<m:=⟨RA n U,Q' n h⟩
def WN(n m:Int)(w:AA)(A:1<=m)(B:m<=4000000000000000000):
 AI 5 #[n,m] w (BX (.int .i64 (n%m)) w):=by
 have hb:=y7 n m U;have H:=O (jT n m U);exact sn
def Fo(w:AA)(v:AB)(l:Ay):Prop:=
 ∃(C:BH) (c:Nat),v=.slice C l.length c/\l.length<=c/\(0<l.length->∃A o,C=some ⟨A,o,none⟩/\A<w.heap.size/\∀B,B<l.length->w.cell? ⟨A,o+B,none⟩=some (.int .i64 (l.getD B 0)))
def Fo.below{w F:AA}{v:AB}{l:Ay}(A:Fo w v l)(C:Below w w F):Fo F v l:=by
 obtain⟨G,c,L,H,A⟩:=A;refine⟨G,c,L,H,λK=>?_⟩;obtain⟨B,o,ha,D,I⟩:=A K;exact⟨B,o,ha,Co D C.size,λE J=>(C.cell (p:=⟨B,o+E,none⟩) D).trans (I E J)⟩
def Fo.nil(w:AA):Fo w AL []:=⟨none,0,rfl,Bh _,λA=>absurd A (Nat.lt_irrefl _)⟩
def WC(l:Ay)(v:AB)(i:Nat)(w:AA)(G:Fo w v l)(P:l.length<=1000000000000000000)(N:i<=1000000):
 AI 41 #[v,i] w (BX (.int .i64 (Fz l i)) w):=by
 obtain⟨J,c,rfl,L,D⟩:=G;go_in;by_cases C:l.length=0
 .obtain rfl:l=[]:=PD.1 C;go_wp2;go_ret;exact⟨GZ (by simp[Fz]),rfl⟩
 .obtain⟨K,o,rfl,M,E⟩:=D (by omega);have H:i%l.length<l.length:=Mi _ (by omega);have T:=E (i%l.length) H;have A:=O (show((i:Int)%(l.length:Int))=((i%l.length:Nat):Int) by omega);have B:=O (show Fz l i=l.getD (i%l.length) 0 from rfl);have Q:((l.length:Int)==0)=false:=Aw.2 (by omega);generalize l.getD (i%l.length) 0=U at *;generalize F:i%l.length=R at *;generalize l.length=S at *;have I:=O F;go_wp2_with fail;refine(WN _ _ _ (by omega) (by omega)).mono ?_;rintro e w' ⟨rfl,rfl⟩;rw[A.o];go_wp2;go_ret;exact⟨GZ B.o.symm,rfl⟩
def AKi(a b:Array UInt8):(ByteArray.mk a)++(ByteArray.mk b)=ByteArray.mk (a++b):=by
 apply ByteArray.ext;simp[Tn]
def GV(a b:AE):(ByteArray.mk a.toArray)++(ByteArray.mk b.toArray)=ByteArray.mk (a++b).toArray:=by
 rw[AKi];simp
def XR:∀k,k<10->(ByteArray.mk #[48,49,50,51,52,53,54,55,56,57]).extract k (k+1)=ByteArray.mk [UInt8.ofNat (48+k)].toArray:=L_
def kF{a b:AE}(h:a=b):Ending.returned (.string ⟨a.toArray⟩)=.returned (AR b):=R_
def Hc(n:Nat):(BG n).length<=20:=by
 have:∀A n,(Dm A n).length<=A:=by
  intro A;induction A with
  | zero=>intro n;simp[Dm]
  | succ A B=>
   intro n;rw[Dm];split
   .simp
   .have:=B (n / 10);simp;omega
 exact this 20 n
def XQ(n:Nat)(w:AA)(J:n<1000000000000000000):
 AI 93 #[n] w (BX (AR (BG n)) w):=by
 go_in;go_wp2;go_loop [0,3] (λD K=>∃(B A:Nat) (C:AE),D=.int .i64 (B:Int)/\K=AR C/\B<1000000000000000000/\C.length+A<=19/\Hid (BG n=Dm (A+1) B++C/\B<10 ^ (A+1))) (λD _=>(intOf D).toNat)
 case atStart=>exact⟨n,19,[],rfl,rfl,J,AH,by simp[BG],U⟩
 case round=>
  obtain⟨B,A,C,rfl,rfl,M,L,F⟩:=hrel;unfold AR;by_cases I:9<B
  .go_wp2;go_round
   case rel=>
    obtain⟨H,E⟩:=F;obtain⟨A,rfl⟩:∃G,A=G+1:=⟨A-1,by
     rcases A with _|A
     .simp at E;omega
     .simp⟩
    refine⟨B / 10,A,UInt8.ofNat (48+B%10)::C,A7,?_,U,hU,?_,?_⟩
    .rw[XR _ U,GV];rfl
    .rw[H,dS _ _ I];simp
    .rw[JB] at E;omega
   case measure=>exact A5
  .go_wp2;go_ret;refine⟨?_,rfl⟩;rw[XR _ U,GV];refine kF ?_;rw[F.1,Dm,Ab U]
def AED(n:Nat)(w:AA)(N:n<1000000000000000000):
 AI 160 #[n] w (BX (AR (Du n)) w):=by
 have P:=Hc (n / 100);have Q:=Hc (n / 10%10);have R:=Hc (n%10);have D:(n:Int) / 100=((n / 100:Nat):Int):=U;have E:(n:Int) / 10%10=((n / 10%10:Nat):Int):=U;have F:(n:Int)%10=((n%10:Nat):Int):=U;have J:=O D;have K:=O E;have L:=O F;have A:=XQ (n / 100) w U;have B:=XQ (n / 10%10) w U;have C:=XQ (n%10) w U;have M:=O (show Du n=BG (n / 100)++[46]++BG (n / 10%10)++BG (n%10) from rfl);generalize BG (n / 100)=S at *;generalize BG (n / 10%10)=T at *;generalize BG (n%10)=V at *;have G:=O A;have H:=O B;have I:=O C;clear D E F A B C;go_in;go_wp2_with fail;rw[J.o];refine G.o.mono ?_;rintro e w' ⟨rfl,rfl⟩;unfold AR;go_wp2_with fail;rw[K.o];refine H.o.mono ?_;rintro e w' ⟨rfl,rfl⟩;unfold AR;go_wp2_with fail;rw[L.o];refine I.o.mono ?_;rintro e w' ⟨rfl,rfl⟩;unfold AR;go_wp2;go_ret;refine⟨?_,rfl⟩;rw[show(ByteArray.mk #[46])=ByteArray.mk [46].toArray from rfl];simp only[GV];exact kF M.o.symm
section
variable{s:AE}
def Rd.cQ{r:Rd}(A:r.bad=true):r.Am s=false:=by simp[Rd.Am,A]
def Rd.mg{r:Rd}(A:r.Am s=true):r.bad=false:=by
 cases B:r.bad with
 | false=>rfl
 | true=>rw[Rd.cQ B] at A;cases A
def Rd.EC{r:Rd}(A:(r.want s).bad=false):r.Am s=true/\r.bad=false/\r.want s=r.AX:=by
 unfold Rd.want at A ⊢;split at A
 .rename_i B;exact⟨B,Rd.mg B,by rw[Ab B]⟩
 .cases A
def Rd.Oc{r:Rd}(A:r.bad=true):(r.want s).bad=true:=by
 unfold Rd.want;rw[Rd.cQ A];rfl
def Rd.WK{r:Rd}(h:r.name.2.bad=false):r.bad=false/\∃t q,r.l=.w 1 t::q/\FJ t=true/\r.name=(t,r.AX):=by
 unfold Rd.name at h ⊢;split at h
 .cases h
 .rename_i hb;refine⟨SJ,?_⟩;split at h
  .rename_i C t q B;split at h
   .rename_i A;obtain⟨rfl,A⟩:=A;exact⟨t,q,B,A,by simp[hb,A]⟩
   .cases h
  .cases h
def Rd.AFU{r:Rd}(A:r.bad=true):r.name.2.bad=true:=by simp[Rd.name,A,Rd.stop]
def Rd.QG{r:Rd}{C B:Int}(h:(r.whole C B).2.bad=false):r.bad=false/\∃v q,r.l=.n v 2::q/\v.d=1/\C<=v.n/\v.n<=B/\r.whole C B=(v.n,r.AX):=by
 unfold Rd.whole at h ⊢;split at h
 .cases h
 .rename_i hb;refine⟨SJ,?_⟩;split at h
  .rename_i v G q F;split at h
   .rename_i A;obtain⟨rfl,A,D,E⟩:=A;exact⟨v,q,F,A,D,E,by simp[hb,A,D,E]⟩
   .cases h
  .cases h
def Rd.Qj{r:Rd}{A:Nat}(h:(r.of A).2.bad=false):r.bad=false/\∃t q n,r.l=.w 1 t::q/\(NP A).lookup t=some n/\r.of A=(n,r.AX):=by
 unfold Rd.of at h ⊢;split at h
 .cases h
 .rename_i hb;refine⟨SJ,?_⟩;split at h
  .rename_i E t q C;split at h
   .rename_i B;subst B;split at h
    .rename_i n D;exact⟨t,q,n,C,D,by simp[hb]⟩
    .cases h
   .cases h
  .cases h
def ADM:∀(f:Nat) (m:Yy) (r:Rd),r.bad=true->(pp f m r).2.bad=true:=by
 intro f;induction f with
 | zero=>intro m r A;rfl
 | succ f C=>
  intro m r A;cases m with
  | ex D=>rw[pp,Ab A];exact A
  | lp D E=>rw[pp,Ab A];exact A
  | call F=>
   rw[pp];have B:(pp f (.ex 0) (r.AX.want [40])).2.bad=true:=C _ _ (Rd.Oc A);simp only;split
   .exact Rd.Oc B
   .exact Rd.Oc (C _ _ (Rd.Oc B))
  | Kg=>
   rw[pp];split
   .rename_i B _;rw[A] at B;cases B
   .simp only[Rd.cQ A,DW,DV];exact Rd.AFU A
def NN{f:Nat}{m:Yy}{r:Rd}(A:(pp f m r).2.bad=false):r.bad=false:=by
 cases B:r.bad with
 | false=>rfl
 | true=>rw[ADM f m r B] at A;cases A
def XG{r:Rd}(A:(Ek r).2.bad=false):r.bad=false:=NN A
def Jg(x:Int × AE):Prop:=
 (x.1=1/\x.2.length<=12/\∃c A,x.2=c::A/\GC c=true)\/(x.1=2/\(G3 x.2).isSome=true/\∃c A,x.2=c::A/\CD c=true)
 \/(x.1=3/\x.2.length=11/\(KU (x.2.drop 1)).isSome=true/\∃A,x.2=64::A)\/(x.1=4/\x.2.length<=2)
def Gf(x:Int × AE):Tok:=KX x.1 x.2
def MI:Nat->AE->Option (List (Int × AE))
 | 0,_=>none
 | f+1,l=>
  match l.drop (CU false l) with
  | []=>some []
  | c::r=>
   match HS (c::r) with
   | none=>none
   | some (kind,n)=>(MI f ((c::r).drop n)).map ((kind,(c::r).take n) :: ·)
def jr(l:AE):II l<=l.length/\II l<=2:=by
 unfold II;split
 .simp
 .split<;>simp
 .split
  .simp
  .split<;>simp
def aN(l:AE)(kind:Int)(n:Nat)(A:HS l=some (kind,n)):n<=l.length:=by
 cases l with
 | nil=>cases A
 | cons c C=>
  simp only[HS] at A;split at A
  .split at A
   .cases A;exact ak _ _
   .cases A
  .split at A
   .split at A
    .cases A;exact ak _ _
    .cases A
   .split at A
    .split at A
     .rename_i B;simp only[At,CJ] at B;cases A;exact B.1
     .cases A
    .split at A
     .cases A;exact(jr _).1
     .cases A
def jR(c:UInt8)(r:AE)(kind:Int)(n:Nat)(h:HS (c::r)=some (kind,n)):Jg (kind,(c::r).take n):=by
 have H:=aN _ _ _ h;have I:=Sd _ _ _ h;obtain⟨A,rfl⟩:∃A,n=A+1:=⟨n-1,U⟩;simp only[HS] at h;split at h
 .rename_i G;split at h
  .rename_i C;simp only[CW,Hg] at h;obtain⟨rfl,B⟩:=h;exact .inl ⟨rfl,wh,c,r.take A,rfl,G⟩
  .cases h
 .split at h
  .rename_i F;split at h
   .rename_i C;simp only[CW,Hg] at h;obtain⟨rfl,B⟩:=h;rw[B] at C;exact .inr (.inl ⟨rfl,C,c,r.take A,rfl,F⟩)
   .cases h
  .split at h
   .rename_i E;split at h
    .rename_i D;simp only[At,CJ] at D;simp only[CW,Hg] at h;obtain⟨rfl,B⟩:=h;obtain rfl:A=10:=U;refine .inr (.inr (.inl ⟨rfl,?_,?_,r.take 10,?_⟩))
     .simp only[HE];omega
     .exact D.2
     .have:c=64:=by simpa using E
      rw[this];rfl
    .cases h
   .split at h
    .simp only[CW,Hg] at h;obtain⟨rfl,B⟩:=h;have:=jr (c::r);exact .inr (.inr (.inr ⟨rfl,wh⟩))
    .cases h
def AGB(f:Nat):∀(l:AE) (t:List Tok),GB f l=some t->∃A,MI f l=some A/\t=A.map Gf/\(∀x∈A,Jg x)/\A.length<=l.length:=by
 induction f with
 | zero=>intro l t h;cases h
 | succ f I=>
  intro l t h;rw[GB] at h;rw[MI];split at h
  .rename_i e;cases h;exact⟨[],by first|rfl|rw[e],rfl,Y9,Az _⟩
  .rename_i c C e;(try rw[e]);(try simp only);split at h
   .cases h
   .rename_i kind J B;simp only[I6] at h;obtain⟨L,H,rfl⟩:=h;obtain⟨A,D,rfl,E,F⟩:=I _ _ H;have K:=Sd _ _ _ B;have G:(c::C).length<=l.length:=gK;refine⟨(kind,(c::C).take J)::A,by (try rw[B]);(try simp only);rw[D];rfl,rfl,?_,?_⟩
    .intro x hx;rcases Aj.1 hx with rfl|hx
     .exact jR _ _ _ _ B
     .exact E x hx
    .simp only[EM,CB] at F G ⊢;omega
def MS(s:AE):Bool:=match s with
 | []=>false
 | c::_=>!CD c&&c !=64
def yw{x:Int × AE}(E:Jg x)(D:MS s=true)(q:List Tok):(Rd.mk (Gf x::q) false).Am s=(x.2==s):=by
 unfold Rd.Am;simp only[Bool.not_false,Nm];rcases E with ⟨A,_⟩|⟨A,_,c,G,C,F⟩|⟨A,_,_,G,C⟩|⟨A,_⟩
 .simp[Gf,KX,A]
 .have:(x.2==s)=false:=by
   rw[Aw];intro B;rw[C] at B;subst B;simp[MS,F] at D
  simp[Gf,KX,A,this]
 .have:(x.2==s)=false:=by
   rw[Aw];intro B;rw[C] at B;subst B;simp[MS] at D
  simp[Gf,KX,A,this]
 .simp[Gf,KX,A]
end
def AEA(w:AA):AI 20 #[] w λe A=>e=.returned (.pointer (some ⟨w.heap.size+1,0,none⟩))/\A=(w.alloc (.map #[] 0)).alloc (.cells #[.map (some w)] 156):=by
 exact qo
def lF(w:AA):AI 21 #[] w λe A=>e=.returned (.pointer w)/\A=w.alloc (.cells #[AL,(),AL] 158):=by
 go_in;go_wp2_with fail;exact H7
