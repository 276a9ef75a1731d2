/- Lemmas for Y28. -/
import Derived.Test.YtcpcgpbohiineaaGreatDoorY06
import Derived.Test.YtcpcgpbohiineaaGreatDoorY07
namespace Go.Proofs.YtcpcgpbohiineaaGreatDoor
open Go.RowKit Go.Proofs.Tryz
set_option linter.all false
set_option maxRecDepth 100000
set_option maxHeartbeats 4000000
def Wn(l:Ay):Array AB:=(l.map (Value.int .i64)).toArray
def T5{α β:Type}(A:List α)(f:α->List β)(j:Nat)(B:j<A.length):(A.take (j+1)).flatMap f=(A.take j).flatMap f++f A[j]:=by
 rw[Mj B,List.flatMap_append];simp only[I4,List.flatMap_nil,El]
def AKt(F:Nat)(v:AB)(G:AE)(B:Ay)(g X size:Nat)(w:AA)(f:size<=8)(o:G.length<=1000000)(x:B.length<=1000)
 (d:w.ownsRow F 5 1 v G.length (A3 G))(j:F<=w.heap.size)(a:AG w g 3 (Wn B)):
 AI 192 #[v,size,.slice g B.length X] w (OU F (G++B.flatMap (be size)) w):=by
 go_in;go_wp2;go_loopw [0,8,9,12] (λv _ _ H wr=>∃(A:Nat) (D:AE),A<=B.length/\H=.int .i64 A/\wr.ownsRow F 5 1 v D.length (A3 D)/\Below F w wr/\DK w wr/\D.length=G.length+A*size/\Hid (D=G++(B.take A).flatMap (be size)))
  (λ_ _ _ H _=>B.length-(intOf H).toNat)
 case atStart=>exact⟨0,G,Az _,rfl,d,AN _ _,DK.refl _,AH,Uz⟩
 case round=>
  obtain⟨A,D,l,rfl,S,K,M,q,O⟩:=hrel;have Z:=a.cD M AD;have t:=K.size;by_cases R:A<B.length
  .have k:wr.cell? ⟨g,A,none⟩=some (.int .i64 B[A]):=by
    rw[Z.cell];simp[Wn,R]
   have W:Hid ((B.take (A+1)).flatMap (be size)=(B.take A).flatMap (be size)++be size B[A]):=T5 B (be size) A R;generalize B[A]=I at *;obtain⟨V,i⟩:∃V:AA,V=wr:=⟨_,rfl⟩;subst i;go_wp2;go_loopw [0,9] (λv H N=>∃(C:Nat) (E:AE),C<=size/\H=.int .i64 ((C:Int)-1)/\N.ownsRow F 5 1 v E.length (A3 E)/\Below F w N/\DK w N/\E.length+C=D.length+size/\Hid (E++be C I=D++be size I))
    (λ_ H _=>(intOf H+1).toNat)
   case atStart=>exact⟨size,D,Bh _,rfl,S,K,M,rfl,rfl⟩
   case round=>
    obtain⟨C,E,m,rfl,T,L,Q,r,P⟩:=hrel;have u:=L.size;have s:A*size<=1000*8:=Nat.mul_le_mul U f;rcases C with _|C
    .go_wp2;go_roundw
     case rel=>
      go_light;have J:E=D++be size I:=by have:=P.o;simpa[be] using this
      refine⟨A+1,E,U,A7,T,L,Q,by rw[Kj];omega,?_⟩;unfold Hid;rw[W.o,J,O.o,E9]
     case measure=>exact A5
    .have n:(0:Int)<=(((C+1:Nat):Int)-1):=U;go_wp2_with (at_builtin;refine Z' AZ _ _ AZ F _ E _ (I / 2 ^ (8*C)) AZ (by exact T) AZ U U ?_;intro y z e Y b)
     go_roundw
     case rel=>exact⟨C,E++[byteOf (I / 2 ^ (8*C))],U,A7,e,L.trans Y,Q.trans b,AM,by have:=P.o;simpa[be,Hid] using this⟩
     case measure=>simp[intOf]
  .have c:A=B.length:=U;subst c;go_wp2;go_ret;exact⟨_,rfl,by have J:=O.o;rw[F6] at J;rw[<-J];exact S,K,M⟩
section
variable{k pos p:Nat}{s:ByteArray}
def FP(b:Bool):Int:=if b then 1 else 0
def Cx(f:Bm)(c:UInt8):AE:=
 if c=83 then be 1 f.st else if c=80 then be 3 f.fr++be 3 f.BR else if c=84 then be 1 f.seat else if c=72 then be 1 f.share
 else if c=67 then be 2 f.cur else if c=65 then be 4 f.Cm else if c=82 then be 1 f.ref else []
def Eu(f:Bm):AE:=be 1 f.B9++be 2 f.num++(be 1 f.BB++be 1 (FP f.gone)++be 1 f.per++be 1 f.kind)
def DU(f:Bm):AE:=Eu f++(CF f.kind).flatMap (Cx f)
def G7(f:Bm):AE:=if BY f then DU f else []
def PL(f:Bm):(Eu f).length=7:=by simp[Eu,Dn]
def AGM(f:Bm)(c:UInt8):(Cx f c).length<=6:=by
 unfold Cx;by_cases A:c=83
 .simp[A,Dn]
 by_cases B:c=80
 .simp[B,Dn]
 by_cases C:c=84
 .simp[C,Dn]
 by_cases D:c=72
 .simp[D,Dn]
 by_cases E:c=67
 .simp[E,Dn]
 by_cases F:c=65
 .simp[F,Dn]
 by_cases G:c=82
 .simp[G,Dn]
 simp[A,B,C,D,E,F,G]
def AGG(f:Bm)(l:AE):(l.flatMap (Cx f)).length<=6*l.length:=by
 induction l with
 | nil=>simp
 | cons c l A=>
  rw[I4,Cp,CB];have:=AGM f c;omega
def Of(k:Int)(c:UInt8)(h:c∈CF k):c=83\/c=80\/c=84\/c=72\/c=67\/c=65\/c=82:=by
 by_cases B:1<=k/\k<=14
 .have A:k=1\/k=2\/k=3\/k=4\/k=5\/k=6\/k=7\/k=8\/k=9\/k=10\/k=11\/k=12\/k=13\/k=14:=U;rcases A with rfl|rfl|rfl|rfl|rfl|rfl|rfl|rfl|rfl|rfl|rfl|rfl|rfl|rfl;all_goals
   simp[CF] at h;first|omega|(rcases h with rfl|rfl|rfl|rfl|rfl|rfl<;>simp)|(rcases h with rfl|rfl|rfl|rfl|rfl<;>simp)|(rcases h with rfl|rfl|rfl|rfl<;>simp)|(rcases h with rfl|rfl|rfl<;>simp)|(rcases h with rfl|rfl<;>simp)|(rcases h with rfl;simp)
 .rw[QL k U] at h;cases h
def AG.iterAt{w:AA}{g:Nat}{t:TypeId}{cs:Array AB}(A:AG w g t cs)(B:w.heap[k]? = some (.stringIter s pos)):AG (w.iterAt k s p) g t cs:=by
 have C:g≠k:=by
  rintro rfl;unfold AG at A;rw[B] at A;cases A
 exact(Lib.iterAt_other w k g s p C).trans A
def AEa{w:AA}{D n:Nat}{v:AB}{E:List AB}(A:w.ownsRow D 5 1 v n E)(H:w.heap[k]? = some (.stringIter s pos)):(w.iterAt k s p).ownsRow D 5 1 v n E:=by
 refine⟨A.1,?_⟩;rcases A.2 with A|⟨B,F,cur,rfl,G,C,rest⟩
 .exact .inl A
 .refine .inr ⟨B,F,cur,rfl,G,?_,rest⟩;have I:B≠k:=by
   rintro rfl;rw[H] at C;cases C
  exact(Lib.iterAt_other w k B s p I).trans C
structure JR(w:AA)(Et:Nat)(cs:Array AB)(v:AB)(l:AE)(wr:AA):Prop where
 own:wr.ownsRow w 5 1 v l.length (A3 l)
 AJ:Below w w wr
 blk:AG wr Et 105 cs
 len:l.length<=1000
def ANp(w:AA)(C:Nat)(cs:Array AB)(l:AE)(wr:AA)(e:Ending)(B:AA):Prop:=
 ∃A,e=.returned A/\JR w C cs A l B/\DK wr B
def JR.step{w wr:AA}{E:Nat}{cs:Array AB}{v:AB}{l:AE}(h:JR w E cs v l wr)(A:Ay)(size:Nat)(F:Int)(m c:Nat)(C:AE)
 (G:l++A.flatMap (be size)=C)(B:F=size)(I:m=A.length)(J:size<=8)(K:A.length<=1000)(H:C.length<=1000):
 AI 192 #[v,F,.slice wr m c] (wr.alloc (.cells (Wn A) 3)) (ANp w E cs C wr):=by
 subst B I;have L:=h.len;have B:=h.AJ.size;go_call AKt w v l A wr c size (wr.alloc (.cells (Wn A) 3)) J U K (h.own.alloc _) AM (AG.new _ _ _) as e w' ⟨v',rfl,ho,hb,hk⟩;rw[G] at ho;have D:DK wr w':=((DK.refl wr).alloc _).trans hk;exact⟨v',rfl,⟨ho,((h.AJ.alloc B _)).trans hb,h.blk.cD D AD,H⟩,D⟩
def JR.alloc{w wr:AA}{B:Nat}{cs:Array AB}{v:AB}{l:AE}(A:JR w B cs v l wr)(o:Obj):JR w B cs v l (wr.alloc o):=
 ⟨A.own.alloc _,A.AJ.alloc A.AJ.size _,A.blk.alloc _,A.len⟩
def JR.iterAt{w wr:AA}{C:Nat}{cs:Array AB}{v:AB}{l:AE}(A:JR w C cs v l wr)(B:wr.heap[k]? = some (.stringIter s pos))(hw:w.heap.size<=k):JR w C cs v l (wr.iterAt k s p):=
 ⟨AEa A.own B,Lib.below_iterAt A.AJ hw s p,A.blk.iterAt B,A.len⟩
def AKI(A B C:Int)(H:Bool)(D a5 a6 a7 a8 a9 Bf Be a12 Bi:Int)(w:AA):
 AI 138 #[.agg #[A,B,C,H,D,a5,a6,a7,a8,a9,Bf,Be,a12,Bi]] w (OU w (G7 ⟨A,B,C,H,D,a5,a6,a7,a8,a9,Bf,Be,a12,Bi⟩) w):=by
 rcases hv:BY ⟨A,B,C,H,D,a5,a6,a7,a8,a9,Bf,Be,a12,Bi⟩ with _|_
 .have G:=O (QK A B C H D a5 a6 a7 a8 a9 Bf Be a12 Bi);have BI:Hid (G7 ⟨A,B,C,H,D,a5,a6,a7,a8,a9,Bf,Be,a12,Bi⟩=[]):=Zb;rw[hv] at G;clear hv;go_in;go_wp2_with (go_at_call 75;refine(G.o _).mono ?_;rintro e N ⟨rfl,hb1⟩)
  exact re
 .have BI:Hid (G7 ⟨A,B,C,H,D,a5,a6,a7,a8,a9,Bf,Be,a12,Bi⟩=DU ⟨A,B,C,H,D,a5,a6,a7,a8,a9,Bf,Be,a12,Bi⟩):=Zb;cases H
  .
    have G:=O (QK A B C false D a5 a6 a7 a8 a9 Bf Be a12 Bi);rw[hv] at G;clear hv;go_in;go_wp2_with (go_at_call 75;refine(G.o _).mono ?_;rintro e N ⟨rfl,hb1⟩;have I:AG N w 105 #[A,B,C,false,D,a5,a6,a7,a8,a9,Bf,Be,a12,Bi]:=AG.below (AG.new w _ _) hb1 AH;have hcl:=I.cell)
    have S:JR w w #[A,B,C,false,D,a5,a6,a7,a8,a9,Bf,Be,a12,Bi] AL [] N:=⟨⟨rfl,.inl ⟨rfl,rfl⟩⟩,Below.boxed hb1,I,AH⟩;clear I;refine(S.step [A] 1 _ _ _ (be 1 A) AH rfl rfl AD AH FC).mono ?_;rintro e i ⟨b,rfl,L,T⟩;clear hcl S T;have hcl:=L.blk.cell;go_wp2_with fail;refine(L.step [B] 2 _ _ _ (be 1 A++be 2 B) AH rfl rfl AD AH FC).mono ?_;rintro e j ⟨d,rfl,M,V⟩;clear hcl L V;have hcl:=M.blk.cell;go_wp2_with fail;refine(M.step [C,0,D,a5] 1 _ _ _ (Eu ⟨A,B,C,false,D,a5,a6,a7,a8,a9,Bf,Be,a12,Bi⟩) (by simp[Eu,FP]) rfl rfl AD AH (by simp[PL])).mono ?_;rintro e w4 ⟨f,rfl,E,W⟩;clear hcl M W;have hcl:=E.blk.cell;go_wp2_with (go_at_call 132;refine(VW _ _).mono ?_;rintro e g ⟨rfl,rfl⟩)
    obtain⟨s,K⟩:∃s,s=Dc a5:=⟨_,rfl⟩;have Fp:=O K;rw[<-K];clear K;have a:s.size<=6:=Zl;have RG:=E.AJ.size;have P:=PL ⟨A,B,C,false,D,a5,a6,a7,a8,a9,Bf,Be,a12,Bi⟩;obtain⟨F,J⟩:∃F,F=Eu ⟨A,B,C,false,D,a5,a6,a7,a8,a9,Bf,Be,a12,Bi⟩:=⟨_,rfl⟩;have U5:=O J;rw[<-J] at E P;clear J hcl;go_loopw [4] (λX wr=>∃(pos:Nat) (l:AE),pos<=s.size/\wr.heap[w4.heap.size]? = some (.stringIter s pos)/\JR w w #[A,B,C,false,D,a5,a6,a7,a8,a9,Bf,Be,a12,Bi] X l wr/\l.length<=7+6*pos/\Hid (l=F++(s.data.toList.take pos).flatMap (Cx ⟨A,B,C,false,D,a5,a6,a7,a8,a9,Bf,Be,a12,Bi⟩)))
     (λ_ wr=>s.size-wr.iterPos w4)
    case atStart=>exact⟨0,F,Az _,World.iter_heap _ _ _,E.alloc _,U,Uz⟩
    case round=>
     obtain⟨pos,l,Z,Q,hst,Y,heq⟩:=hrel;clear E P;have HIT:=O Q;clear Q;by_cases hlt:pos<s.size
     .have R:s[pos]∈CF a5:=by
       exact rF
      have Nb:=Of a5 _ R;clear R;have By:Hid ((s.data.toList.take (pos+1)).flatMap (Cx ⟨A,B,C,false,D,a5,a6,a7,a8,a9,Bf,Be,a12,Bi⟩)=(s.data.toList.take pos).flatMap (Cx ⟨A,B,C,false,D,a5,a6,a7,a8,a9,Bf,Be,a12,Bi⟩)++Cx ⟨A,B,C,false,D,a5,a6,a7,a8,a9,Bf,Be,a12,Bi⟩ s[pos]):=T5 s.data.toList _ pos JP;exact uM
     .have hnx:∀ty,(Instr.next (.pointer w4) true ty).run prog wr=.ok (.tuple #[false]) wr:=λty=>Lib.run_next_end_at wr _ s pos ty HIT.o hlt;go_wp2;go_ret;have e:l=DU ⟨A,B,C,false,D,a5,a6,a7,a8,a9,Bf,Be,a12,Bi⟩:=by
       exact sA
      exact qI
  .
    have G:=O (QK A B C true D a5 a6 a7 a8 a9 Bf Be a12 Bi);rw[hv] at G;clear hv;go_in;go_wp2_with (go_at_call 75;refine(G.o _).mono ?_;rintro e N ⟨rfl,hb1⟩;have I:AG N w 105 #[A,B,C,true,D,a5,a6,a7,a8,a9,Bf,Be,a12,Bi]:=AG.below (AG.new w _ _) hb1 AH;have hcl:=I.cell)
    have S:JR w w #[A,B,C,true,D,a5,a6,a7,a8,a9,Bf,Be,a12,Bi] AL [] N:=⟨⟨rfl,.inl ⟨rfl,rfl⟩⟩,Below.boxed hb1,I,AH⟩;clear I;refine(S.step [A] 1 _ _ _ (be 1 A) AH rfl rfl AD AH FC).mono ?_;rintro e i ⟨b,rfl,L,T⟩;clear hcl S T;have hcl:=L.blk.cell;go_wp2_with fail;refine(L.step [B] 2 _ _ _ (be 1 A++be 2 B) AH rfl rfl AD AH FC).mono ?_;rintro e j ⟨d,rfl,M,V⟩;clear hcl L V;have hcl:=M.blk.cell;go_wp2_with fail;refine(M.step [C,1,D,a5] 1 _ _ _ (Eu ⟨A,B,C,true,D,a5,a6,a7,a8,a9,Bf,Be,a12,Bi⟩) (by simp[Eu,FP]) rfl rfl AD AH (by simp[PL])).mono ?_;rintro e w4 ⟨f,rfl,E,W⟩;clear hcl M W;have hcl:=E.blk.cell;go_wp2_with (go_at_call 132;refine(VW _ _).mono ?_;rintro e g ⟨rfl,rfl⟩)
    obtain⟨s,K⟩:∃s,s=Dc a5:=⟨_,rfl⟩;have Fp:=O K;rw[<-K];clear K;have a:s.size<=6:=Zl;have RG:=E.AJ.size;have P:=PL ⟨A,B,C,true,D,a5,a6,a7,a8,a9,Bf,Be,a12,Bi⟩;obtain⟨F,J⟩:∃F,F=Eu ⟨A,B,C,true,D,a5,a6,a7,a8,a9,Bf,Be,a12,Bi⟩:=⟨_,rfl⟩;have U5:=O J;rw[<-J] at E P;clear J hcl;go_loopw [4] (λX wr=>∃(pos:Nat) (l:AE),pos<=s.size/\wr.heap[w4.heap.size]? = some (.stringIter s pos)/\JR w w #[A,B,C,true,D,a5,a6,a7,a8,a9,Bf,Be,a12,Bi] X l wr/\l.length<=7+6*pos/\Hid (l=F++(s.data.toList.take pos).flatMap (Cx ⟨A,B,C,true,D,a5,a6,a7,a8,a9,Bf,Be,a12,Bi⟩)))
     (λ_ wr=>s.size-wr.iterPos w4)
    case atStart=>exact⟨0,F,Az _,World.iter_heap _ _ _,E.alloc _,U,Uz⟩
    case round=>
     obtain⟨pos,l,Z,Q,hst,Y,heq⟩:=hrel;clear E P;have HIT:=O Q;clear Q;by_cases hlt:pos<s.size
     .have R:s[pos]∈CF a5:=by
       exact rF
      have Nb:=Of a5 _ R;clear R;have By:Hid ((s.data.toList.take (pos+1)).flatMap (Cx ⟨A,B,C,true,D,a5,a6,a7,a8,a9,Bf,Be,a12,Bi⟩)=(s.data.toList.take pos).flatMap (Cx ⟨A,B,C,true,D,a5,a6,a7,a8,a9,Bf,Be,a12,Bi⟩)++Cx ⟨A,B,C,true,D,a5,a6,a7,a8,a9,Bf,Be,a12,Bi⟩ s[pos]):=T5 s.data.toList _ pos JP;exact uM
     .have hnx:∀ty,(Instr.next (.pointer w4) true ty).run prog wr=.ok (.tuple #[false]) wr:=λty=>Lib.run_next_end_at wr _ s pos ty HIT.o hlt;go_wp2;go_ret;have e:l=DU ⟨A,B,C,true,D,a5,a6,a7,a8,a9,Bf,Be,a12,Bi⟩:=by
       exact sA
      exact qI
end
def jS(n m:Int)(h:0<m):n.tmod m=if 0<=n\/n%m=0 then n%m else n%m-m:=by
 exact sV
def y5(n m:Int)(h:0<m): -m<n.tmod m/\n.tmod m<m:=by
 rw[jS n m h];exact rO
def NR(n m:Int)(w:AA)(A:1<=m)(B:m<=1000000000000):
 AI 5 #[n,m] w (BX (.int .i64 (n%m)) w):=by
 have hb:=y5 n m U;have H:=O (jS n m U);exact sn
def CV{w:AA}{A n:Nat}{t:TypeId}{v:AB}{C:List AB}(B:w.ownsRow A t 1 v n C):∃a c,v=.slice a n c:=by
 rcases B.2 with ⟨rfl,rfl⟩|⟨E,D,cur,rfl,_⟩
 .exact⟨_,_,rfl⟩
 .exact⟨_,_,rfl⟩
section
variable{g:Nat}
def Gk(n m:Int)(h:0<m):0<=n%m/\n%m<m:=⟨RA n U,Q' n h⟩
def AMX(w:AA)(e:Ending)(B:AA):Prop:=∃A:Int,e=.returned A/\1<=A/\A<=9000/\w=B
def AGS(n:Int)(w:AA)(J : -9223372036854775808<=n)(K:n<=9223372036854775807):
 AI 83 #[n] w (AMX w):=by
 obtain⟨A,B⟩:=Gk (n.tdiv 4) 9000 AD;obtain⟨C,D⟩:=Gk (n.tdiv 4) 1200 AD;obtain⟨E,F⟩:=Gk (n.tdiv 4) 120 AD;obtain⟨H,I⟩:=Gk (n.tdiv 4) 12 AD;go_in;go_wp2_with (go_at_call 5;refine(NR _ _ _ AD AD).mono ?_;rintro G L ⟨rfl,rfl⟩)
 all_goals
  go_ret;go_light;exact⟨_,rfl,U,U,rfl⟩
def VO:Array AB:=#[.int .i64 0,.int .i64 0,.int .i64 0,.bool false,.int .i64 0,.int .i64 0,.int .i64 0,.int .i64 0,.int .i64 0,.int .i64 0,.int .i64 0,.int .i64 0,.int .i64 0,.int .i64 0]
def BP(f:Bm):Array AB:=#[.int .i64 f.B9,.int .i64 f.num,.int .i64 f.BB,.bool f.gone,.int .i64 f.per,.int .i64 f.kind,.int .i64 f.st,.int .i64 f.fr,.int .i64 f.BR,.int .i64 f.seat,.int .i64 f.share,.int .i64 f.cur,.int .i64 f.Cm,.int .i64 f.ref]
def dc(f:Bm):Prop:=0<=f.B9/\f.B9<=5/\1<=f.num/\f.num<=999/\1<=f.BB/\f.BB<=99/\1<=f.per/\f.per<=4/\1<=f.kind/\f.kind<=14
structure JI(w:AA)(rc AH4:Array AB)(wr:AA):Prop where
 r:AG wr w 117 rc
 z:AG wr (w.heap.size+1) 105 VO
 f:AG wr (w.heap.size+2) 105 AH4
 AJ:Below w w wr
def JI.put{w wr:AA}{B A:Array AB}(h:JI w B A wr)(i:Nat)(u:AB):JI w B (A.setIfInBounds i u) (wr.setCell ⟨w.heap.size+2,i,none⟩ u):=
 ⟨h.r.far AH u,h.z.far AH u,h.f.put i u,h.AJ.setCell AH u⟩
def JI.drew{w wr:AA}{C B:Array AB}(A:JI w C B wr):JI w C B wr.drew:=⟨A.r,A.z,A.f,A.AJ.drew⟩
def JI.next{w wr E:AA}{D C:Array AB}(A:JI w D C wr)(B:Below wr wr E):JI w D C E:=
 ⟨A.r.below B A.r.lt,A.z.below B A.z.lt,A.f.below B A.f.lt,Below.next A.AJ B⟩
def AMT(w:AA)(E:Array AB)(D:Bool)(F:AA):Prop:=∃A B C:Int,0<=A/\A<=5/\1<=B/\B<=999/\1<=C/\C<=99/\JI w E #[A,B,C,D,(),(),(),(),(),(),(),(),(),()] F
def AMN(m:Int)(w:AA)(e:Ending)(B:AA):Prop:=∃A:Int,e=.returned A/\0<=A/\A<m/\w=B
def LT(n m:Int)(w:AA)(A:1<=m)(B:m<=1000000000000):AI 5 #[n,m] w (AMN m w):=
 (NR n m w A B).mono λ_ _ ⟨C,hw⟩=>⟨n%m,C,(Gk n m U).1,(Gk n m U).2,hw⟩
def AHZ(u:AE)(c x:UInt8):hasB (u++[c]) x=(hasB u x||c==x):=by
 rw[W_,W_];by_cases h:c=x
 .subst h;simp
 .have B:(c==x)=false:=Fq;have C:¬x=c:=λA=>h A.symm;simp[B,C]
structure Part(u:AE)(k p fr BR:Int)(f:Bm):Prop where
 core:dc f
 dJ:f.kind=k
 ep:f.per=p
 s:Cf (hasB u 83) f.st 0 5=true
 t:Cf (hasB u 84) f.seat 0 5=true
 h:Cf (hasB u 72) f.share 1 100=true
 c:Cf (hasB u 67) f.cur 1 999=true
 a:Cf (hasB u 65) f.Cm 0 1000000000=true
 r:Cf (hasB u 82) f.ref 1 99=true
 sp:hasB u 80=true->f.fr=fr/\f.BR=BR
 pt:k=4->hasB u 84=true->f.st≠f.seat
 ABB:hasB u 82=true->f.ref≠p
def PT{b:Bool}{x C A:Int}(B:Cf b x C A=true)(D:0<=A):(0<=x\/C<=x)/\x<=A:=by
 cases b
 .simp[Cf] at B;omega
 .simp[Cf,BJ] at B;omega
def ya(k:Int):(83:UInt8)∉(CF k).tail:=by
 exact sf
def ye(k:Int)(i:Nat)(h:i<(CF k).length)(B:(CF k)[i]=83):i=0:=by
 rcases i with _|i
 .rfl
 .exfalso;apply ya k;rw[<-B];have C:i<(CF k).tail.length:=AM;have A:(CF k)[i+1]=(CF k).tail[i]:=AH;rw[A];exact Gq C
def yg(k:Int)(A:1<=k)(B:k<=14):hasB (CF k) 80=true/\(CF k).isEmpty=false:=by
 have hk:k=1\/k=2\/k=3\/k=4\/k=5\/k=6\/k=7\/k=8\/k=9\/k=10\/k=11\/k=12\/k=13\/k=14:=U;exact qn
def yc(k:Int)(A:k=4):hasB (CF k) 84=true:=by subst A;decide
def yf(k:Int)(A:k=10\/k=14):hasB (CF k) 82=true:=by rcases A with rfl|rfl<;>decide
section
variable {u:AE} {k p fr BR:Int} {f:Bm}
def Part.zQ(hp:Part u k p fr BR f)(x:Int)(A:0<=x)(B:x<=5)(C:hasB u 84=false):Part (u++[83]) k p fr BR { f with st:=x }:=by
 exact Ph
def Part.zR(hp:Part u k p fr BR f):Part (u++[80]) k p fr BR { f with fr:=fr,BR:=BR }:=by
 exact Ph
def Part.stepT(hp:Part u k p fr BR f)(x:Int)(A:0<=x)(B:x<=5)(C:k=4->f.st≠x):Part (u++[84]) k p fr BR { f with seat:=x }:=by
 exact Ph
def Part.zS(hp:Part u k p fr BR f)(x:Int)(A:1<=x)(B:x<=100):Part (u++[72]) k p fr BR { f with share:=x }:=by
 exact Ph
def Part.zT(hp:Part u k p fr BR f)(x:Int)(A:1<=x)(B:x<=999):Part (u++[67]) k p fr BR { f with cur:=x }:=by
 exact Ph
def Part.zU(hp:Part u k p fr BR f)(x:Int)(A:0<=x)(B:x<=1000000000):Part (u++[65]) k p fr BR { f with Cm:=x }:=by
 exact Ph
def Part.jc(hp:Part u k p fr BR f)(x:Int)(A:1<=x)(B:x<=99)(C:x≠p):Part (u++[82]) k p fr BR { f with ref:=x }:=by
 exact Ph
def Part.valid(Q:Part (CF k) k p fr BR f)(R:G0 fr BR=true)(N:k=11\/k=12->BR=fr+1):BY f=true:=by
 obtain⟨I,L,M,X,Z,h,c,D,V,Y,T,W⟩:=Q;unfold dc at I;obtain⟨O,P⟩:=yg k U U;obtain⟨J,K⟩:=Y O;subst L M J K;have E:BJ f.B9 0 5=true:=OS;have F:BJ f.num 1 999=true:=OS;have G:BJ f.BB 1 99=true:=OS;have H:BJ f.per 1 99=true:=OS;have S:MF f=true:=by
  unfold MF;by_cases A:f.kind=4
  .have:=T A (yc _ A);simp[A,this]
  .by_cases B:f.kind=11\/f.kind=12
   .have:=N B;rw[AU A,Ab B,this];simp
   .by_cases C:f.kind=10\/f.kind=14
    .have:=W (yf _ C);rw[AU A,AU B,Ab C];exact E_
    .rw[AU A,AU B,AU C]
 simp[BY,Ds,P,E,F,G,H,X,Z,R,h,c,D,V,S]
end
def AMO(w:AA)(e:Ending)(A:AA):Prop:=∃f:Bm,e=.returned (.agg (BP f))/\BY f=true/\Below w w A
def xh{wr:AA}{t:TypeId}(h:AG wr g t VO)(g0 g1 g2:Int)(g3:Bool)(g4 g5 g6 g7 g8 g9 g10 g11 g12 g13:Int):
 AG (((((((((((((((wr.setCell ⟨g,0,none⟩ g0).setCell ⟨g,1,none⟩ g1).setCell ⟨g,2,none⟩ g2).setCell ⟨g,3,none⟩ (.bool g3)).setCell ⟨g,4,none⟩ g4).setCell ⟨g,5,none⟩ g5).setCell ⟨g,6,none⟩ g6).setCell ⟨g,7,none⟩ g7).setCell ⟨g,8,none⟩ g8).setCell ⟨g,9,none⟩ g9).setCell ⟨g,10,none⟩ g10).setCell ⟨g,11,none⟩ g11).setCell ⟨g,12,none⟩ g12).setCell ⟨g,13,none⟩ g13)) g t (BP ⟨g0,g1,g2,g3,g4,g5,g6,g7,g8,g9,g10,g11,g12,g13⟩):=by
 have e:((((((((((((((VO.setIfInBounds 0 g0).setIfInBounds 1 g1).setIfInBounds 2 g2).setIfInBounds 3 (.bool g3)).setIfInBounds 4 g4).setIfInBounds 5 g5).setIfInBounds 6 g6).setIfInBounds 7 g7).setIfInBounds 8 g8).setIfInBounds 9 g9).setIfInBounds 10 g10).setIfInBounds 11 g11).setIfInBounds 12 g12).setIfInBounds 13 g13)=BP ⟨g0,g1,g2,g3,g4,g5,g6,g7,g8,g9,g10,g11,g12,g13⟩:=by simp[VO,BP]
 exact sN
def Nx{w wr:AA}(P:Below w w wr)(A:w.heap.size<=g)(B C H:Int)(I:Bool)(J K L M N O D E F G:Int):
 Below w w (((((((((((((((wr.setCell ⟨g,0,none⟩ B).setCell ⟨g,1,none⟩ C).setCell ⟨g,2,none⟩ H).setCell ⟨g,3,none⟩ (.bool I)).setCell ⟨g,4,none⟩ J).setCell ⟨g,5,none⟩ K).setCell ⟨g,6,none⟩ L).setCell ⟨g,7,none⟩ M).setCell ⟨g,8,none⟩ N).setCell ⟨g,9,none⟩ O).setCell ⟨g,10,none⟩ D).setCell ⟨g,11,none⟩ E).setCell ⟨g,12,none⟩ F).setCell ⟨g,13,none⟩ G)):=
 ((((((((((((((P.setCell A _).setCell A _).setCell A _).setCell A _).setCell A _).setCell A _).setCell A _).setCell A _).setCell A _).setCell A _).setCell A _).setCell A _).setCell A _).setCell A _)
def Ke:(prog.info? 105).map (·.size)=some 14:=AF
end
attribute [local irreducible] World.setCell in
def AFw(c d e:Int)(a:Bool)(f g u v b i r s t:Int)(w:AA)(Bc : -9223372036854775808<=i)(Bd:i<=9223372036854775807):
 AI 42 #[.agg #[c,d,e,a,f,g,u,v,b,i,r,s,t]] w (AMO w):=by
 obtain⟨Ah,As⟩:=Gk c 3 AD;obtain⟨At,Au⟩:=Gk d 20 AD;obtain⟨Av,Aw⟩:=Gk e 3 AD;obtain⟨Ax,Ay⟩:=Gk f 4 AD;obtain⟨A0,A1⟩:=Gk g 14 AD;go_in;go_upto_region 1 with fail;go_cut [3] (λAp x=>Ap=.pointer (some ⟨w.heap.size+2,0,none⟩)/\AMT w #[c,d,e,a,f,g,u,v,b,i,r,s,t] a x);case first=>
  go_region_held3 (λH=>H.cell? ⟨w,0,none⟩=some (c:AB)/\H.cell? ⟨w,1,none⟩=some (d:AB)/\H.cell? ⟨w,2,none⟩=some (e:AB)/\H.cell? ⟨w,3,none⟩=some (.bool a)) (simp[go_sem,World.cell?_alloc_past])
   (first|(go_at_call 5;refine(NR _ _ _ AD AD).mono ?_;rintro E H ⟨rfl,rfl⟩))
  all_goals
   go_wp2_with fail;go_meet;refine⟨rfl,c%3,IntKind.i64.wrap (1+d%20),IntKind.i64.wrap (1+e%3),Ah,U,?_,?_,?_,?_,?_,?_,?_,?_⟩;rotate_left 4
   .exact(((AG.new w _ _).alloc _).alloc _).drew
   .exact((AG.newAt _ _ _ _ AH).alloc _).drew
   .exact(AG.newAt _ _ _ _ AH).drew
   .exact(((AN _ _).alloc AK _).alloc AH _ |>.alloc AM _).drew
   all_goals
    go_light;rw[RC _ U];omega
 case rest=>
  obtain⟨rfl,AT,AU,AW,BC,BD,BO,BQ,Ba,Bb,F⟩:=hcut;go_upto_region 2 with fail;have o:=F.r.cell;go_cut [] (λx=>∃p J:Int,1<=p/\p<=4/\1<=J/\J<=14/\JI w #[c,d,e,a,f,g,u,v,b,i,r,s,t] #[AT,AU,AW,a,p,J,(),(),(),(),(),(),(),()] x);case first=>
   have m:=F.f.cell;have Aj:=F.f.frozen;go_region_held3 (λH=>H.cell? ⟨w,4,none⟩=some (f:AB)/\H.cell? ⟨w,5,none⟩=some (g:AB)) (simp[go_sem,o])
    (first|(go_at_call 5;refine(NR _ _ _ AD AD).mono ?_;rintro E H ⟨rfl,rfl⟩))
   go_wp2_with fail;go_meet;refine⟨IntKind.i64.wrap (1+f%4),IntKind.i64.wrap (1+g%14),?_,?_,?_,?_,?_⟩;rotate_left 4
   .exact((F.put 4 _).put 5 _).drew
   all_goals
    go_light;rw[RC _ U];omega
  case rest=>
   obtain⟨p,J,BU,BV,BF,BG,AC⟩:=hcut;clear F o;have o:=AC.r.cell;have m:=AC.f.cell;obtain⟨L,M⟩:=Gk b 16000 AD;obtain⟨AZ,A6⟩:=Gk b 5000 AD;obtain⟨BH,BI⟩:=Gk b 6000 AD;obtain⟨BM,BN⟩:=Gk b 4000 AD;obtain⟨BS,BT⟩:=Gk i 700 AD;go_upto_block 0 with (first
    | (go_at_call 5;refine(NR _ _ _ AD AD).mono ?_;rintro E H ⟨rfl,rfl⟩)
    | (go_at_call 83;refine(AGS _ _ U U).mono ?_;rintro E H ⟨BJ,rfl,BK,BL,rfl⟩))
   go_cut [4,5] (λAq Ar x=>∃fr BR:Int,Aq=.int .i64 fr/\Ar=.int .i64 BR/\0<=fr/\fr<BR/\BR<=73049/\Hid (J=11\/J=12->BR=fr+1)/\JI w #[c,d,e,a,f,g,u,v,b,i,r,s,t] #[AT,AU,AW,a,p,J,(),(),(),(),(),(),(),()] x);case first=>
    go_wp2_with (go_at_call 5;refine(NR _ _ _ AD AD).mono ?_;rintro E H ⟨rfl,rfl⟩)
    all_goals
     go_meet;go_light;refine⟨_,_,rfl,rfl,U,U,U,?_,AC⟩;intro A';first|rfl|(simp_all;done)|(simp_all;omega)
   case rest=>
    obtain⟨fr,BR,rfl,rfl,A2,A3,A4,Al,AR⟩:=hcut;clear AC o m;have m:=AR.f.cell;go_wp2_with (go_at_call 84;refine(QT _ _).mono ?_;rintro E H ⟨rfl,Aa⟩)
    have Ae:=AR.next Aa
    clear m AR Aa;obtain⟨G,AQ⟩:∃G,G=Dc J:=⟨_,rfl⟩;have Fp:=O AQ;rw[<-AQ];clear AQ;have BA:G.size<=6:=by rw[Fp.o];exact QM J
    go_loopw [7] (λAV wr=>∃(B:Nat) (AY:Bm),B<=G.size/\AV=.int .i64 B/\JI w #[c,d,e,a,f,g,u,v,b,i,r,s,t] (BP AY) wr/\Part (G.data.toList.take B) J p fr BR AY) (λAV _=>G.size-(intOf AV).toNat)
    case atStart=>
     go_light;refine⟨0,⟨AT,AU,AW,a,p,J,0,0,0,0,0,0,0,0⟩,Az _,rfl,Ae,?_⟩;refine⟨?_,rfl,rfl,?_,?_,?_,?_,?_,?_,?_,?_,?_⟩
     .simp only[dc];omega
     all_goals simp[Cf,nN]
    case round=>
     obtain⟨B,⟨N,L,M,P,D,I,C,V,W,Y,R,S,T,X⟩,A_,rfl,F,Ad⟩:=hrel;clear Ae;have Q:=O Ad;clear Ad;by_cases hlt:B<G.size
     .have AP:G.data.toList=CF J:=iD;have z:B<(CF J).length:=by rw[<-AP];simpa using hlt
      have AO:(CF J)[B]=G[B]:=by
       have:∀(AF:AE) (h:B<AF.length),AF=G.data.toList->AF[B]=G[B]:=by
        intro AF h E;subst E;rfl
       exact this _ z AP.symm
      have Ab:G[B]∈CF J:=by rw[<-AO];exact Gq z
      have Z:Hid (G.data.toList.take (B+1)=G.data.toList.take B++[G[B]]):=by
       have:=Mj (l:=G.data.toList) (i:=B) JP;exact D2
      have Ag:Hid (G[B]=83->hasB (G.data.toList.take B) 84=false):=by
       intro h;have:B=0:=ye J B z (by rw[AO];exact h);subst this;rfl
      have Ai:=Of J _ Ab;clear AP z AO Ab;have o:=F.r.cell;have m:∀j,wr.cell? ⟨w.heap.size+2,j,none⟩=(#[N,L,M,P,D,I,C,V,W,Y,R,S,T,X]:Array AB)[j]?:=F.f.cell;have Aj:=F.f.frozen;have Af:Hid (I=J):=Q.o.dJ;have y:Hid (D=p):=Q.o.ep;have BW:1<=D:=by have:=y.o;omega
      have BX:D<=4:=by have:=y.o;omega
      have Ao:(0<=C\/0<=C)/\C<=5:=PT Q.o.s AD;have BY:0<=C:=U;have BZ:C<=5:=U;clear Ao;rcases Ai with K|K|K|K|K|K|K
      .
        go_wp2_with (go_at_call 5;refine(LT _ _ _ AD AD).mono ?_;rintro E H ⟨A,rfl,k,l,rfl⟩)
        go_roundw
        case rel=>
         go_light;exact⟨B+1,{ B9:=N,num:=L,BB:=M,gone:=P,per:=D,kind:=I,st:=A,fr:=V,BR:=W,seat:=Y,share:=R,cur:=S,Cm:=T,ref:=X },U,A7,F.put 6 A,by rw[Z.o,K];exact Q.o.zQ A U U (Ag.o K)⟩
        case measure=>exact A5
      .
        go_wp2_with (go_at_call 5;refine(LT _ _ _ AD AD).mono ?_;rintro E H ⟨A,rfl,k,l,rfl⟩)
        go_roundw
        case rel=>
         go_light;exact⟨B+1,{ B9:=N,num:=L,BB:=M,gone:=P,per:=D,kind:=I,st:=C,fr:=fr,BR:=BR,seat:=Y,share:=R,cur:=S,Cm:=T,ref:=X },U,A7,(F.put 7 fr).put 8 BR,by rw[Z.o,K];exact Q.o.zR⟩
        case measure=>exact A5
      .
        by_cases n:I=4
        .have Am:(I==4)=true:=by simp[n]
         have AX:=O n;clear n;go_wp2_with fail;refine(LT _ _ _ AD AD).mono ?_;rintro E H ⟨A,rfl,k,l,rfl⟩;by_cases hy:A=C
         .have AS:(A==C)=true:=Ip;clear hy;have q:=Gk (C+1) 3 AD;obtain⟨q,An⟩:=q;have AJ:Hid (C≠(C+1)%3):=by unfold Hid;omega
          go_wp2_with (go_at_call 5;refine(NR _ _ _ AD AD).mono ?_;rintro E H ⟨rfl,rfl⟩)
          go_roundw
          case rel=>
           go_light;exact⟨B+1,{ B9:=N,num:=L,BB:=M,gone:=P,per:=D,kind:=I,st:=C,fr:=V,BR:=W,seat:=(C+1)%3,share:=R,cur:=S,Cm:=T,ref:=X },U,A7,(F.put 9 A).put 9 (.int .i64 ((C+1)%3)),by rw[Z.o,K];exact Q.o.stepT ((C+1)%3) U U (λ_=>AJ.o)⟩
          case measure=>exact A5
         .have AS:(A==C)=false:=Ip;have AL:=O hy;clear hy;go_wp2_with fail;go_roundw
          case rel=>
           go_light;exact⟨B+1,{ B9:=N,num:=L,BB:=M,gone:=P,per:=D,kind:=I,st:=C,fr:=V,BR:=W,seat:=A,share:=R,cur:=S,Cm:=T,ref:=X },U,A7,F.put 9 A,by rw[Z.o,K];exact Q.o.stepT A U U (λ_ E=>AL.o E.symm)⟩
          case measure=>exact A5
        .have Am:(I==4)=false:=by simp[n]
         have AX:=O n;clear n;go_wp2_with (go_at_call 5;refine(LT _ _ _ AD AD).mono ?_;rintro E H ⟨A,rfl,k,l,rfl⟩)
         go_roundw
         case rel=>
          go_light;exact⟨B+1,{ B9:=N,num:=L,BB:=M,gone:=P,per:=D,kind:=I,st:=C,fr:=V,BR:=W,seat:=A,share:=R,cur:=S,Cm:=T,ref:=X },U,A7,F.put 9 A,by rw[Z.o,K];exact Q.o.stepT A U U (λE=>absurd (Af.o.trans E) AX.o)⟩
         case measure=>exact A5
      .
        go_wp2_with (go_at_call 5;refine(LT _ _ _ AD AD).mono ?_;rintro E H ⟨A,rfl,k,l,rfl⟩)
        go_roundw
        case rel=>
         go_light;exact⟨B+1,{ B9:=N,num:=L,BB:=M,gone:=P,per:=D,kind:=I,st:=C,fr:=V,BR:=W,seat:=Y,share:=1+A,cur:=S,Cm:=T,ref:=X },U,A7,F.put 10 (.int .i64 (1+A)),by rw[Z.o,K];exact Q.o.zS (1+A) U U⟩
        case measure=>exact A5
      .
        go_wp2_with (go_at_call 5;refine(LT _ _ _ AD AD).mono ?_;rintro E H ⟨A,rfl,k,l,rfl⟩)
        go_roundw
        case rel=>
         go_light;exact⟨B+1,{ B9:=N,num:=L,BB:=M,gone:=P,per:=D,kind:=I,st:=C,fr:=V,BR:=W,seat:=Y,share:=R,cur:=1+A,Cm:=T,ref:=X },U,A7,F.put 11 (.int .i64 (1+A)),by rw[Z.o,K];exact Q.o.zT (1+A) U U⟩
        case measure=>exact A5
      .
        go_wp2_with (go_at_call 5;refine(LT _ _ _ AD AD).mono ?_;rintro E H ⟨A,rfl,k,l,rfl⟩)
        go_roundw
        case rel=>
         go_light;exact⟨B+1,{ B9:=N,num:=L,BB:=M,gone:=P,per:=D,kind:=I,st:=C,fr:=V,BR:=W,seat:=Y,share:=R,cur:=S,Cm:=A,ref:=X },U,A7,F.put 12 A,by rw[Z.o,K];exact Q.o.zU A U U⟩
        case measure=>exact A5
      .
        go_wp2_with fail;refine(LT _ _ _ AD AD).mono ?_;rintro E H ⟨A,rfl,k,l,rfl⟩;by_cases hy:1+A=D
        .have AS:(1+A==D)=true:=Ip;clear hy;have q:=Gk D 4 AD;obtain⟨q,An⟩:=q;have AJ:Hid (1+D%4≠p):=by have:=y.o;unfold Hid;omega
         go_wp2_with (go_at_call 5;refine(NR _ _ _ AD AD).mono ?_;rintro E H ⟨rfl,rfl⟩)
         go_roundw
         case rel=>
          go_light;exact⟨B+1,{ B9:=N,num:=L,BB:=M,gone:=P,per:=D,kind:=I,st:=C,fr:=V,BR:=W,seat:=Y,share:=R,cur:=S,Cm:=T,ref:=1+D%4 },U,A7,(F.put 13 (.int .i64 (1+A))).put 13 (.int .i64 (1+D%4)),by rw[Z.o,K];exact Q.o.jc (1+D%4) U U AJ.o⟩
         case measure=>exact A5
        .have AS:(1+A==D)=false:=Ip;have AL:=O hy;clear hy;go_wp2_with fail;go_roundw
         case rel=>
          go_light;exact⟨B+1,{ B9:=N,num:=L,BB:=M,gone:=P,per:=D,kind:=I,st:=C,fr:=V,BR:=W,seat:=Y,share:=R,cur:=S,Cm:=T,ref:=1+A },U,A7,F.put 13 (.int .i64 (1+A)),by rw[Z.o,K];exact Q.o.jc (1+A) U U (λE=>AL.o (E.trans y.o.symm))⟩
         case measure=>exact A5
     .have Ak:B=G.size:=U;subst Ak;have m:∀j,wr.cell? ⟨w.heap.size+2,j,none⟩=(#[N,L,M,P,D,I,C,V,W,Y,R,S,T,X]:Array AB)[j]?:=F.f.cell;have A8:∀j,wr.cell? ⟨w.heap.size+1,j,none⟩=(#[(),(),(),false,(),(),(),(),(),(),(),(),(),()]:Array AB)[j]?:=F.z.cell;have A9:=F.z.frozen;go_wp2;refine BE (v:=.agg (BP ⟨N,L,M,P,D,I,C,V,W,Y,R,S,T,X⟩)) (results_cell_row results42 _ _ (w.heap.size+1) 105 _ (0,0) _ rfl (xh F.z N L M P D I C V W Y R S T X) underlying105 rfl Ke) rfl ?_;refine⟨_,rfl,?_,?_⟩
      .go_light;have E:G.data.toList.take G.size=CF J:=by
        have AZ:G.data.toList.length=G.size:=AH;rw[<-AZ,F6,Fp.o];rfl
       have Ac:=Q.o;rw[E] at Ac;exact Ac.valid xA Al.o
      .go_light;exact Nx F.AJ U N L M P D I C V W Y R S T X
section
variable{w':AA}{g k pos:Nat}{rl:AE}{s:ByteArray}
structure JF where
 f:Bm
 l:AE
 sh:Bool
def Bq(s:JF)(c:UInt8):JF:=
 if c=83 then ⟨{ s.f with st:=BZ 1 s.l },BD 1 s.l,Cv 1 s.l s.sh⟩
 else if c=80 then ⟨{ s.f with fr:=BZ 3 s.l,BR:=BZ 3 (BD 3 s.l) },BD 3 (BD 3 s.l),Cv 3 (BD 3 s.l) (Cv 3 s.l s.sh)⟩
 else if c=84 then ⟨{ s.f with seat:=BZ 1 s.l },BD 1 s.l,Cv 1 s.l s.sh⟩
 else if c=72 then ⟨{ s.f with share:=BZ 1 s.l },BD 1 s.l,Cv 1 s.l s.sh⟩
 else if c=67 then ⟨{ s.f with cur:=BZ 2 s.l },BD 2 s.l,Cv 2 s.l s.sh⟩
 else if c=65 then ⟨{ s.f with Cm:=BZ 4 s.l },BD 4 s.l,Cv 4 s.l s.sh⟩
 else if c=82 then ⟨{ s.f with ref:=BZ 1 s.l },BD 1 s.l,Cv 1 s.l s.sh⟩
 else s
def G2(l:AE):AE:=BD 1 l
def HT(l:AE):AE:=BD 2 (G2 l)
def Jb(l:AE):AE:=BD 1 (HT l)
def Iw(l:AE):AE:=BD 1 (Jb l)
def LM(l:AE):AE:=BD 1 (Iw l)
def S9(l:AE):AE:=BD 1 (LM l)
def QY(l:AE):Bool:=Cv 1 (LM l) (Cv 1 (Iw l) (Cv 1 (Jb l) (Cv 1 (HT l) (Cv 2 (G2 l) (Cv 1 l false)))))
def Ga(l:AE):Int:=BZ 1 (Jb l)
def rdKind(l:AE):Int:=BZ 1 (LM l)
def Fx(l:AE):JF:=⟨⟨BZ 1 l,BZ 2 (G2 l),BZ 1 (HT l),Ga l==1,BZ 1 (Iw l),rdKind l,0,0,0,0,0,0,0,0⟩,S9 l,QY l⟩
def FG(l:AE):JF:=(CF (rdKind l)).foldl Bq (Fx l)
def DZ(l:AE):Bool:=!(FG l).sh&&decide (Ga l<=1)&&BY (FG l).f
def GR:Bm:=⟨0,0,0,false,0,0,0,0,0,0,0,0,0,0⟩
def KP(l:AE):Bm:=if DZ l then (FG l).f else GR
def LL(l:AE):Int:=if DZ l then (l.length:Int)-((FG l).l.length:Int) else 0
def ACA(l:AE):BZ 1 (BD 1 (BD 1 (BD 1 (BD 2 (BD 1 l)))))=rdKind l:=by unfold rdKind LM Iw Jb HT G2;exact Eq.refl _
def ACC(l:AE):BZ 1 (BD 1 (BD 2 (BD 1 l)))=Ga l:=by unfold Ga Jb HT G2;exact Eq.refl _
def ACH(l:AE):BD 1 (BD 1 (BD 1 (BD 1 (BD 2 (BD 1 l)))))=S9 l:=by unfold S9 LM Iw Jb HT G2;exact Eq.refl _
def AB0(l:AE):Cv 1 (BD 1 (BD 1 (BD 1 (BD 2 (BD 1 l))))) (Cv 1 (BD 1 (BD 1 (BD 2 (BD 1 l)))) (Cv 1 (BD 1 (BD 2 (BD 1 l))) (Cv 1 (BD 2 (BD 1 l)) (Cv 2 (BD 1 l) (Cv 1 l false)))))=QY l:=by unfold QY LM Iw Jb HT G2;exact Eq.refl _
def y8(k:Nat)(l:AE):(BD k l).length<=l.length:=by
 unfold BD;split<;>simp
attribute [local irreducible] BZ BD Cv
structure GL(w:AA)(f:Bm)(l:AE)(sh:Bool)(wr:AA):Prop where
 f:AG wr w 105 (BP f)
 r:fG w (w.heap.size+1) l sh wr
 AJ:Below w w wr
 len:l.length<=4611686018427387904
def ALr(w:AA)(f:Bm)(k:Nat)(l:AE)(A:Bool)(wr:AA)(e:Ending)(w':AA):Prop:=
 e=.returned (.int .i64 (BZ k l))/\GL w f (BD k l) (Cv k l A) w'/\wr.grownBy w' (some (w.heap.size+1))
def GL.take{w wr:AA}{f:Bm}{l:AE}{B:Bool}(h:GL w f l B wr)(k:Nat)(A:Int)(D:A=k)(hk:1<=k)(C:k<=6):
 AI 205 #[.pointer (some ⟨w.heap.size+1,0,none⟩),A] wr (ALr w f k l B wr):=by
 go_call zB w (w.heap.size+1) k A l B wr D hk C h.r h.len as e w' ⟨he,hr,hg⟩;refine⟨he,⟨h.f.grown hg AH,hr,h.AJ.grown hg h.AJ.size Pu,Ap (y8 k l) h.len⟩,hg⟩
def GL.put{w wr:AA}{f f':Bm}{l:AE}{B:Bool}(h:GL w f l B wr)(i:Nat)(u:AB)(hf:(BP f).setIfInBounds i u=BP f'):GL w f' l B (wr.setCell ⟨w,i,none⟩ u):=by
 refine⟨vl,?_,h.AJ.setCell AH u,h.len⟩;obtain⟨⟨N,A,I⟩,E⟩:=h.r;refine⟨⟨N,A.far AH u,?_⟩,E⟩;obtain⟨C,c,K,F,L⟩:=I;refine⟨C,c,K,F,λH=>?_⟩;obtain⟨D,o,ha,A,G⟩:=L H;exact⟨D,o,ha,A,λM u J=>(Wi wr _ _ _ VF).trans (G M u J)⟩
def GL.same{w wr:AA}{f:Bm}{l:AE}{B:Bool}(D:GL w f l B wr)(E:w'.heap[w.heap.size]? = wr.heap[w.heap.size]?)(F:w'.heap[w.heap.size+1]? = wr.heap[w.heap.size+1]?)(A:Below w wr w'):GL w f l B w':=by
 obtain⟨H,⟨⟨L,J,I⟩,G⟩,C,K⟩:=D;exact⟨E.trans H,⟨⟨L,F.trans J,I.below A⟩,G⟩,C.trans A,K⟩
def GL.lt{w wr:AA}{f:Bm}{l:AE}{C:Bool}(A:GL w f l C wr):w.heap.size+1<wr.heap.size:=by
 obtain⟨_,⟨⟨D,B,_⟩,_⟩,_,_⟩:=A;exact B.lt
def GL.iterAt{w wr:AA}{f:Bm}{l:AE}{A:Bool}(h:GL w f l A wr)(k:Nat)(s:ByteArray)(p:Nat)(B:w.heap.size+1<k):GL w f l A (wr.iterAt k s p):=
 h.same (Lib.iterAt_other _ _ _ _ _ U) (Lib.iterAt_other _ _ _ _ _ U) (Lib.below_iterAt DL U s p)
def GL.iter{w wr:AA}{f:Bm}{l:AE}{B:Bool}(A:GL w f l B wr)(s:ByteArray)(p:Nat):GL w f l B (wr.iter s p):=
 A.same (GI _ _ _ (by have:=A.lt;omega)) (GI _ _ _ A.lt) ((AN _ _).alloc (by have:=A.lt;omega) _)
def NV{w:AA}(h:w.heap[k]? = some (.stringIter s pos))(A:w.grownBy w' (some g))(B:k≠g):w'.heap[k]? = some (.stringIter s pos):=
 (A.block k (E7.1 h).1 VF).trans h
def iter_set{w:AA}{i:Nat}(A:w.heap[k]? = some (.stringIter s pos))(u:AB)(B:k≠g):(w.setCell ⟨g,i,none⟩ u).heap[k]? = some (.stringIter s pos):=
 (Lg w ⟨g,i,none⟩ u k B).trans A
def Uc(l:AE)(w:AA)(e:Ending)(w':AA):Prop:=
 e=.returned (.tuple #[.agg (BP (KP l)),.int .i64 (LL l),.bool (DZ l)])/\Below w w w'
def La{wr:AA}{t:TypeId}{f:Bm}(h:AG wr g t (BP f))(g0 g1 g2:Int)(g3:Bool)(g4 g5 g6 g7 g8 g9 g10 g11 g12 g13:Int):
 AG (((((((((((((((wr.setCell ⟨g,0,none⟩ g0).setCell ⟨g,1,none⟩ g1).setCell ⟨g,2,none⟩ g2).setCell ⟨g,3,none⟩ (.bool g3)).setCell ⟨g,4,none⟩ g4).setCell ⟨g,5,none⟩ g5).setCell ⟨g,6,none⟩ g6).setCell ⟨g,7,none⟩ g7).setCell ⟨g,8,none⟩ g8).setCell ⟨g,9,none⟩ g9).setCell ⟨g,10,none⟩ g10).setCell ⟨g,11,none⟩ g11).setCell ⟨g,12,none⟩ g12).setCell ⟨g,13,none⟩ g13)) g t (BP ⟨g0,g1,g2,g3,g4,g5,g6,g7,g8,g9,g10,g11,g12,g13⟩):=by
 have e:(((((((((((((((BP f).setIfInBounds 0 g0).setIfInBounds 1 g1).setIfInBounds 2 g2).setIfInBounds 3 (.bool g3)).setIfInBounds 4 g4).setIfInBounds 5 g5).setIfInBounds 6 g6).setIfInBounds 7 g7).setIfInBounds 8 g8).setIfInBounds 9 g9).setIfInBounds 10 g10).setIfInBounds 11 g11).setIfInBounds 12 g12).setIfInBounds 13 g13)=BP ⟨g0,g1,g2,g3,g4,g5,g6,g7,g8,g9,g10,g11,g12,g13⟩:=by simp[BP]
 exact sN
def QV{P:Program}{A:Func}{p u x:Tmp}{ty:TypeId}(h:A.results=#[.cell p ty,.tmp u,.tmp x])(tmps:Array AB)(w:AA)(g:Nat)(t:TypeId)(cs:Array AB)(fr:Nat × Nat)(d:TypeDesc)(v1 v2:AB)
 (hp:tmps.getD p undef=.pointer g)(h1:tmps.getD u undef=v1)(h2:tmps.getD x undef=v2)(hg:w.heap[g]? = some (.cells cs t fr))
 (hu:P.underlying ty=some d)(hd:(match d with | .struct _ | .array _ _=>true|_=>false)=true)(hi:(P.info? ty).map (·.size)=some cs.size):
 (results A tmps).run P w=.ok (.tuple #[.agg cs,v1,v2]) w:=by
 exact fB
def V6{l:AE}{w:AA}(A:DZ l=false)(B:Below w w w'):
 Uc l w (.returned (.tuple #[.agg (BP ⟨0,0,0,false,0,0,0,0,0,0,0,0,0,0⟩),(),false])) w':=by
 refine⟨?_,B⟩;simp[KP,LL,A,GR]
def ABy{l:AE}{f:Bm}{C:Bool}{w:AA}(ha:FG l=⟨f,rl,C⟩)(A:DZ l=true)(B:Below w w w'):
 Uc l w (.returned (.tuple #[.agg (BP f),.int .i64 ((l.length:Int)-(rl.length:Int)),true])) w':=by
 refine⟨?_,B⟩;simp[KP,LL,A,ha]
def AB2{l:AE}{f:Bm}(ha:FG l=⟨f,rl,true⟩):DZ l=false:=by simp[DZ,ha]
def AB5{l:AE}(A:¬Ga l<=1):DZ l=false:=by simp[DZ,A]
def AB1{l:AE}{f:Bm}(ha:FG l=⟨f,rl,false⟩)(A:Ga l<=1):DZ l=BY f:=by simp[DZ,ha,A]
def ABq(v:AB)(l:AE)(w:AA)(AJ:Af w w v l)(As:l.length<=4611686018427387904):
 AI 145 #[v] w (Uc l w):=by
 obtain⟨Ak,c,Ay,A6,A0⟩:=id AJ;subst Ay;clear A0;have AY:GL w GR l false ((w.alloc (.cells #[(),(),(),false,(),(),(),(),(),(),(),(),(),()] 105)).alloc (.cells #[.slice Ak l.length c,false] 305)):=by
  refine⟨(AG.new _ _ _).alloc _,⟨⟨_,AG.newAt _ _ _ _ AH,?_⟩,U⟩,((AN _ _).alloc AK _).alloc AH _,As⟩;exact AJ.below (((AN _ _).alloc AK _).alloc AH _)
 clear AJ;go_in;go_wp2_with fail;refine(AY.take 1 _ rfl AD AD).mono ?_;rintro F BA ⟨rfl,AZ,Am⟩;clear Am;clear AY;go_wp2_with fail;refine(AZ.take 2 _ rfl AD AD).mono ?_;rintro F BC ⟨rfl,Ab,An⟩;clear An;clear AZ;go_wp2_with fail;refine(Ab.take 1 _ rfl AD AD).mono ?_;rintro F A2 ⟨rfl,r,Ao⟩;clear Ao;clear Ab;have B:∀X,A2.cell? ⟨w,X,none⟩=(#[(),(),(),false,(),(),(),(),(),(),(),(),(),()]:Array AB)[X]?:=r.f.cell;have M:=r.f.frozen;go_wp2_with fail;have Ac:=((r.put (f':={ GR with B9:=BZ 1 l }) 0 (.int .i64 (BZ 1 l)) rfl).put (f':={ GR with B9:=BZ 1 l,num:=BZ 2 (G2 l) }) 1 (.int .i64 (BZ 2 (BD 1 l))) rfl).put (f':={ GR with B9:=BZ 1 l,num:=BZ 2 (G2 l),BB:=BZ 1 (HT l) }) 2 (.int .i64 (BZ 1 (BD 2 (BD 1 l)))) rfl;clear r B M;refine(Ac.take 1 _ rfl AD AD).mono ?_;rintro F BF ⟨rfl,t,Ap⟩;clear Ap Ac;have B:=t.f.cell;have M:=t.f.frozen;simp only[BP,GR] at B;go_wp2_with fail;have Ad:=t.put (f':={ GR with B9:=BZ 1 l,num:=BZ 2 (G2 l),BB:=BZ 1 (HT l),gone:=Ga l==1 }) 3 (.bool (BZ 1 (BD 1 (BD 2 (BD 1 l)))==1)) rfl;clear t B M;refine(Ad.take 1 _ rfl AD AD).mono ?_;rintro F BG ⟨rfl,Ae,Aq⟩;clear Aq Ad;go_wp2_with fail;refine(Ae.take 1 _ rfl AD AD).mono ?_;rintro F f ⟨rfl,j,Ar⟩;clear Ar Ae;have B:=j.f.cell;have M:=j.f.frozen;simp only[BP,GR] at B;go_wp2_with (go_at_call 132;refine(VW _ _).mono ?_;rintro F w' ⟨rfl,rfl⟩)
 have e:=(j.put (f':={ GR with B9:=BZ 1 l,num:=BZ 2 (G2 l),BB:=BZ 1 (HT l),gone:=Ga l==1,per:=BZ 1 (Iw l) }) 4 (.int .i64 (BZ 1 (BD 1 (BD 1 (BD 2 (BD 1 l)))))) rfl).put (f':=⟨BZ 1 l,BZ 2 (G2 l),BZ 1 (HT l),Ga l==1,BZ 1 (Iw l),rdKind l,0,0,0,0,0,0,0,0⟩) 5 (.int .i64 (BZ 1 (BD 1 (BD 1 (BD 1 (BD 2 (BD 1 l))))))) rfl;have AU:w.heap.size+1<f.heap.size:=j.lt;clear j B M;rw[ACA] at e ⊢;rw[ACC];have Ag:((f.setCell ⟨w,4,none⟩ (.int .i64 (BZ 1 (BD 1 (BD 1 (BD 2 (BD 1 l))))))).setCell ⟨w,5,none⟩ (.int .i64 (rdKind l))).heap.size=f.heap.size:=by simp[World.setCell]
 have y:=World.iter_heap ((f.setCell ⟨w,4,none⟩ (.int .i64 (BZ 1 (BD 1 (BD 1 (BD 2 (BD 1 l))))))).setCell ⟨w,5,none⟩ (.int .i64 (rdKind l))) (Dc (rdKind l)) 0;rw[Ag] at y;have m:=O y;clear Ag y;replace e:=e.iter (Dc (rdKind l)) 0;rw[ACH,AB0] at e;obtain⟨E,AV⟩:∃E,E=f.heap.size:=⟨_,rfl⟩;rw[<-AV] at m AU ⊢;clear AV;generalize ((f.setCell ⟨w,4,none⟩ (.int .i64 (BZ 1 (BD 1 (BD 1 (BD 2 (BD 1 l))))))).setCell ⟨w,5,none⟩ (.int .i64 (rdKind l))).iter (Dc (rdKind l)) 0=BH at *;obtain⟨s,AF⟩:∃s,s=Dc (rdKind l):=⟨_,rfl⟩;have Fp:=O AF;rw[<-AF] at m ⊢;clear AF;have A_:s.size<=6:=by rw[Fp.o];exact QM (rdKind l)
 go_loopw [8] (λ_ wr=>∃(pos:Nat) (st:JF),pos<=s.size/\Hid (wr.heap[E]? = some (.stringIter s pos))/\GL w st.f st.l st.sh wr/\Hid (st=(s.data.toList.take pos).foldl Bq (Fx l)))
  (λ_ wr=>s.size-wr.iterPos E)
 case atStart=>
  clear Fp;refine⟨0,Fx l,Az _,m,?_,?_⟩
  .unfold Fx;exact e
  .simp[Hid]
 case round=>
  obtain⟨pos,⟨⟨G,H,I,J,K,L,S,Y,T,V,N,P,Q,R⟩,rl,AM⟩,A8,a,o,heq⟩:=hrel;clear e m;simp only at o;by_cases hlt:pos<s.size
  .have AW:s[pos]∈CF (rdKind l):=by
    have h1:s[pos]∈s.data.toList:=Gq (l:=s.data.toList) (n:=pos) JP;have Al:s.data.toList=CF (rdKind l):=iD;rw[Al] at h1;exact h1
   have Nb:=Of _ _ AW;clear AW;have By:Hid ((s.data.toList.take (pos+1)).foldl Bq (Fx l)=Bq ((s.data.toList.take pos).foldl Bq (Fx l)) s[pos]):=by
    refine uO ?_;rfl
   have AP:s[pos].toNat<128:=xU;have At:∀d,(Instr.next (.pointer (some ⟨E,0,none⟩)) true d).run prog wr=.ok (.tuple #[true,pos,.int .i32 s[pos].toNat]) (wr.iterAt E s (pos+1)):=λd=>Lib.run_next_ascii_at wr _ s pos d a.o hlt AP;have W:=o.iterAt E s (pos+1) AU;have b:Hid ((wr.iterAt E s (pos+1)).heap[E]? = some (.stringIter s (pos+1))):=Lib.iterAt_heap wr _ s pos (pos+1) a.o;clear o AP;generalize wr.iterAt E s (pos+1)=BI at *;generalize s[pos]=A3 at *;rcases Nb with rfl|rfl|rfl|rfl|rfl|rfl|rfl
   .
     go_wp2_with fail;refine(W.take 1 _ rfl AD AD).mono ?_;rintro F Z ⟨rfl,A,C⟩;have D:Hid (Z.heap[E]? = some (.stringIter s (pos+1))):=NV b.o C U;clear C W;have B:=A.f.cell;have M:=A.f.frozen;simp only[BP] at B;go_wp2;go_roundw
     case rel=>
      go_light;refine⟨pos+1,⟨{ B9:=G,num:=H,BB:=I,gone:=J,per:=K,kind:=L,st:=BZ 1 rl,fr:=Y,BR:=T,seat:=V,share:=N,cur:=P,Cm:=Q,ref:=R },_,_⟩,U,iter_set D.o _ U,A.put 6 _ rfl,?_⟩;exact PZ
     case measure=>
      go_light;have h0:=a.o;have h1:=iter_set (i:=6) D.o (.int .i64 (BZ 1 rl)) (g:=w.heap.size) U;exact PY
   .go_wp2_with fail;refine(W.take 3 _ rfl AD AD).mono ?_;rintro F Z ⟨rfl,A,C⟩;have D:Hid (Z.heap[E]? = some (.stringIter s (pos+1))):=NV b.o C U;clear C W;go_wp2_with fail;refine(A.take 3 _ rfl AD AD).mono ?_;rintro F A1 ⟨rfl,AL,AS⟩;have AO:Hid (A1.heap[E]? = some (.stringIter s (pos+1))):=NV D.o AS U;clear AS A;have B:=AL.f.cell;have M:=AL.f.frozen;simp only[BP] at B;go_wp2;go_roundw
    case rel=>
     go_light;refine⟨pos+1,⟨{ B9:=G,num:=H,BB:=I,gone:=J,per:=K,kind:=L,st:=S,fr:=BZ 3 rl,BR:=BZ 3 (BD 3 rl),seat:=V,share:=N,cur:=P,Cm:=Q,ref:=R },_,_⟩,U,iter_set (iter_set AO.o _ U) _ U,(AL.put (f':={ B9:=G,num:=H,BB:=I,gone:=J,per:=K,kind:=L,st:=S,fr:=BZ 3 rl,BR:=T,seat:=V,share:=N,cur:=P,Cm:=Q,ref:=R }) 7 _ rfl).put 8 _ rfl,?_⟩;exact PZ
    case measure=>
     go_light;have h0:=a.o;have h1:=iter_set (i:=8) (iter_set (i:=7) AO.o (.int .i64 (BZ 3 rl)) (g:=w.heap.size) U) (.int .i64 (BZ 3 (BD 3 rl))) (g:=w.heap.size) U;exact PY
   .
     go_wp2_with fail;refine(W.take 1 _ rfl AD AD).mono ?_;rintro F Z ⟨rfl,A,C⟩;have D:Hid (Z.heap[E]? = some (.stringIter s (pos+1))):=NV b.o C U;clear C W;have B:=A.f.cell;have M:=A.f.frozen;simp only[BP] at B;go_wp2;go_roundw
     case rel=>
      go_light;refine⟨pos+1,⟨{ B9:=G,num:=H,BB:=I,gone:=J,per:=K,kind:=L,st:=S,fr:=Y,BR:=T,seat:=BZ 1 rl,share:=N,cur:=P,Cm:=Q,ref:=R },_,_⟩,U,iter_set D.o _ U,A.put 9 _ rfl,?_⟩;exact PZ
     case measure=>
      go_light;have h0:=a.o;have h1:=iter_set (i:=9) D.o (.int .i64 (BZ 1 rl)) (g:=w.heap.size) U;exact PY
   .
     go_wp2_with fail;refine(W.take 1 _ rfl AD AD).mono ?_;rintro F Z ⟨rfl,A,C⟩;have D:Hid (Z.heap[E]? = some (.stringIter s (pos+1))):=NV b.o C U;clear C W;have B:=A.f.cell;have M:=A.f.frozen;simp only[BP] at B;go_wp2;go_roundw
     case rel=>
      go_light;refine⟨pos+1,⟨{ B9:=G,num:=H,BB:=I,gone:=J,per:=K,kind:=L,st:=S,fr:=Y,BR:=T,seat:=V,share:=BZ 1 rl,cur:=P,Cm:=Q,ref:=R },_,_⟩,U,iter_set D.o _ U,A.put 10 _ rfl,?_⟩;exact PZ
     case measure=>
      go_light;have h0:=a.o;have h1:=iter_set (i:=10) D.o (.int .i64 (BZ 1 rl)) (g:=w.heap.size) U;exact PY
   .
     go_wp2_with fail;refine(W.take 2 _ rfl AD AD).mono ?_;rintro F Z ⟨rfl,A,C⟩;have D:Hid (Z.heap[E]? = some (.stringIter s (pos+1))):=NV b.o C U;clear C W;have B:=A.f.cell;have M:=A.f.frozen;simp only[BP] at B;go_wp2;go_roundw
     case rel=>
      go_light;refine⟨pos+1,⟨{ B9:=G,num:=H,BB:=I,gone:=J,per:=K,kind:=L,st:=S,fr:=Y,BR:=T,seat:=V,share:=N,cur:=BZ 2 rl,Cm:=Q,ref:=R },_,_⟩,U,iter_set D.o _ U,A.put 11 _ rfl,?_⟩;exact PZ
     case measure=>
      go_light;have h0:=a.o;have h1:=iter_set (i:=11) D.o (.int .i64 (BZ 2 rl)) (g:=w.heap.size) U;exact PY
   .
     go_wp2_with fail;refine(W.take 4 _ rfl AD AD).mono ?_;rintro F Z ⟨rfl,A,C⟩;have D:Hid (Z.heap[E]? = some (.stringIter s (pos+1))):=NV b.o C U;clear C W;have B:=A.f.cell;have M:=A.f.frozen;simp only[BP] at B;go_wp2;go_roundw
     case rel=>
      go_light;refine⟨pos+1,⟨{ B9:=G,num:=H,BB:=I,gone:=J,per:=K,kind:=L,st:=S,fr:=Y,BR:=T,seat:=V,share:=N,cur:=P,Cm:=BZ 4 rl,ref:=R },_,_⟩,U,iter_set D.o _ U,A.put 12 _ rfl,?_⟩;exact PZ
     case measure=>
      go_light;have h0:=a.o;have h1:=iter_set (i:=12) D.o (.int .i64 (BZ 4 rl)) (g:=w.heap.size) U;exact PY
   .
     go_wp2_with fail;refine(W.take 1 _ rfl AD AD).mono ?_;rintro F Z ⟨rfl,A,C⟩;have D:Hid (Z.heap[E]? = some (.stringIter s (pos+1))):=NV b.o C U;clear C W;have B:=A.f.cell;have M:=A.f.frozen;simp only[BP] at B;go_wp2;go_roundw
     case rel=>
      go_light;refine⟨pos+1,⟨{ B9:=G,num:=H,BB:=I,gone:=J,per:=K,kind:=L,st:=S,fr:=Y,BR:=T,seat:=V,share:=N,cur:=P,Cm:=Q,ref:=BZ 1 rl },_,_⟩,U,iter_set D.o _ U,A.put 13 _ rfl,?_⟩;exact PZ
     case measure=>
      go_light;have h0:=a.o;have h1:=iter_set (i:=13) D.o (.int .i64 (BZ 1 rl)) (g:=w.heap.size) U;exact PY
  .have At:∀d,(Instr.next (.pointer (some ⟨E,0,none⟩)) true d).run prog wr=.ok (.tuple #[false]) wr:=λd=>Lib.run_next_end_at wr _ s pos d a.o hlt;have u:Hid (FG l=⟨⟨G,H,I,J,K,L,S,Y,T,V,N,P,Q,R⟩,rl,AM⟩):=by
    unfold Hid;have A4:s.data.toList.length=s.size:=AH;have Au:pos=s.data.toList.length:=U;have:=heq.o;rw[Au,F6,Fp.o] at this;exact this.symm
   clear Fp a heq;have Aj:=O (QK G H I J K L S Y T V N P Q R);obtain⟨RJ,⟨⟨A',AC,Aw⟩,A5⟩,Aa,A7⟩:=o;obtain⟨Ah,Ai,rfl,A9,Ax⟩:=Aw;clear Ax;have B:∀X,wr.cell? ⟨w,X,none⟩=(#[G,H,I,J,K,L,S,Y,T,V,N,P,Q,R]:Array AB)[X]?:=RJ.cell;have AR:∀X,wr.cell? ⟨w.heap.size+1,X,none⟩=(#[.slice Ah rl.length Ai,AM]:Array AB)[X]?:=AC.cell;have M:=RJ.frozen;cases AM
   .by_cases AT:Ga l<=1
    .have Gu:=O (AB1 u.o AT);go_wp2_with fail;refine(Aj.o _).mono ?_;rintro F w' ⟨rfl,x⟩;have n:=RJ.below x RJ.lt;have Av:=AC.below x AC.lt;have AQ:=Aa.trans (x.mono (by have:=RJ.lt;omega));clear B AR M;have B:∀X,w'.cell? ⟨w,X,none⟩=(#[G,H,I,J,K,L,S,Y,T,V,N,P,Q,R]:Array AB)[X]?:=n.cell;have AR:∀X,w'.cell? ⟨w.heap.size+1,X,none⟩=(#[.slice Ah rl.length Ai,false]:Array AB)[X]?:=Av.cell;have M:=n.frozen;rw[<-Gu.o];cases AX:DZ l
     .go_wp2;refine BE (v:=.tuple #[.agg (BP ⟨0,0,0,false,0,0,0,0,0,0,0,0,0,0⟩),(),false]) (QV results145 _ _ w 105 _ (0,0) _ _ _ rfl rfl rfl (La n 0 0 0 false 0 0 0 0 0 0 0 0 0 0) underlying105 rfl Ke) rfl ?_;exact V6 AX (Nx AQ AK 0 0 0 false 0 0 0 0 0 0 0 0 0 0)
     .go_wp2_with fail;go_region
      go_wp2;refine BE (v:=.tuple #[.agg (BP ⟨G,H,I,J,K,L,S,Y,T,V,N,P,Q,R⟩),.int .i64 ((l.length:Int)-(rl.length:Int)),true]) (QV results145 _ _ w 105 _ (0,0) _ _ _ rfl rfl rfl (La n G H I J K L S Y T V N P Q R).drew underlying105 rfl Ke) rfl ?_;exact ABy u.o AX (Nx AQ AK G H I J K L S Y T V N P Q R).drew
    .have Gu:=O (AB5 AT);go_wp2_with fail;any_goals (exfalso;omega)
     exact qt
   .have Gu:=O (AB2 u.o);go_wp2_with fail;exact qt
end
section
variable{k:Nat}{l:AE}
def J0(x:Int)(c:UInt8)(A:x%256=(c.toNat:Int)):byteOf x=c:=by
 apply UInt8.toNat_inj.1;have:=RZ x;omega
def pM(a:UInt8):be 1 (AQ [a])=[a]:=by
 have ha:=a.toNat_lt;refine Yd ?_;rw[J0 _ a AM]
def Xe(a b:UInt8):be 2 (AQ [a,b])=[a,b]:=by
 have ha:=a.toNat_lt;have A:=b.toNat_lt;refine Yd ?_;rw[J0 _ a AM,J0 _ b AM]
def AKZ(a b c:UInt8):be 3 (AQ [a,b,c])=[a,b,c]:=by
 have ha:=a.toNat_lt;have A:=b.toNat_lt;have B:=c.toNat_lt;refine Yd ?_;rw[J0 _ a AM,J0 _ b AM,J0 _ c AM]
def pL(a b c d:UInt8):be 4 (AQ [a,b,c,d])=[a,b,c,d]:=by
 have ha:=a.toNat_lt;have A:=b.toNat_lt;have B:=c.toNat_lt;have C:=d.toNat_lt;refine Yd ?_;rw[J0 _ a AM,J0 _ b AM,J0 _ c AM,J0 _ d AM]
def du(k:Nat)(l:AE)(A:l.length=k)(B:1<=k)(C:k<=4):be k (AQ l)=l:=by
 match l,A with
 | [a],A=>simp at A;subst A;exact pM a
 | [a,b],A=>simp at A;subst A;exact Xe a b
 | [a,b,c],A=>simp at A;subst A;exact AKZ a b c
 | [a,b,c,d],A=>simp at A;subst A;exact pL a b c d
 | [],A=>simp at A;omega
 | _::_::_::_::_::_,A=>simp at A;omega
def MR(x:Int)(A:0<=x)(B:x<256):AQ (be 1 x)=x:=by
 exact Xs
def WH(x:Int)(A:0<=x)(B:x<65536):AQ (be 2 x)=x:=by
 exact Xs
def lq(x:Int)(A:0<=x)(B:x<16777216):AQ (be 3 x)=x:=by
 exact Xs
def TQ(x:Int)(A:0<=x)(B:x<4294967296):AQ (be 4 x)=x:=by
 exact Xs
def Fu(k:Nat)(p t:AE)(h:p.length=k):BZ k (p++t)=AQ p/\BD k (p++t)=t/\∀A,Cv k (p++t) A=A:=by
 subst h;have B:¬p.length+t.length<p.length:=U;simp[BZ,BD,Cv,B]
def aO(k:Nat)(l t:AE)(h:k<=l.length):BZ k (l++t)=BZ k l/\BD k (l++t)=BD k l++t/\∀A,Cv k (l++t) A=Cv k l A:=by
 have B:¬l.length+t.length<k:=U;have C:¬l.length<k:=U;simp[BZ,BD,Cv,B,C,Wg h,cK h]
def LG{A:Bool}(h:Cv k l A=false):k<=l.length/\A=false:=by
 unfold Cv at h;split at h
 .cases h
 .exact⟨U,h⟩
def aP{A:Bool}(h:Cv k l A=false)(B:1<=k)(D:k<=4):be k (BZ k l)++BD k l=l/\A=false:=by
 obtain⟨F,E⟩:=LG h;have C:¬l.length<k:=U;refine⟨?_,E⟩;simp only[BZ,BD,AU C];rw[du k (l.take k) AM B D,Md]
def AB9(s:JF)(c:UInt8)(t:AE)(h:(Bq s c).sh=false):s.sh=false/\Bq ⟨s.f,s.l++t,s.sh⟩ c=⟨(Bq s c).f,(Bq s c).l++t,false⟩:=by
 obtain⟨M,l,N⟩:=s;unfold Bq at h ⊢;by_cases A:c=83
 .simp only[Ab A] at h ⊢;exact Ro
 by_cases B:c=80
 .simp only[AU A,Ab B] at h ⊢;obtain⟨hk,K⟩:=LG h;obtain⟨L,rfl⟩:=LG K;obtain⟨e1,e2,e3⟩:=aO _ l t L;obtain⟨H,I,J⟩:=aO _ _ t hk;simp[e1,e2,e3,H,I,J,h]
 by_cases C:c=84
 .simp only[AU A,AU B,Ab C] at h ⊢;exact Ro
 by_cases D:c=72
 .simp only[AU A,AU B,AU C,Ab D] at h ⊢;exact Ro
 by_cases E:c=67
 .simp only[AU A,AU B,AU C,AU D,Ab E] at h ⊢;exact Ro
 by_cases F:c=65
 .simp only[AU A,AU B,AU C,AU D,AU E,Ab F] at h ⊢;exact Ro
 by_cases G:c=82
 .simp only[AU A,AU B,AU C,AU D,AU E,AU F,Ab G] at h ⊢;exact Ro
 simp only[AU A,AU B,AU C,AU D,AU E,AU F,AU G] at h ⊢;exact⟨h,R_⟩
def kf(u:AE):∀(s:JF) (t:AE),(u.foldl Bq s).sh=false->s.sh=false/\u.foldl Bq ⟨s.f,s.l++t,s.sh⟩=⟨(u.foldl Bq s).f,(u.foldl Bq s).l++t,false⟩:=by
 induction u with
 | nil=>intro s t A;exact⟨A,by simp only[List.foldl_nil] at A ⊢;rw[A]⟩
 | cons c u F=>
  intro s t A;rw[Fh] at A;obtain⟨B,C⟩:=F (Bq s c) t A;obtain⟨D,E⟩:=AB9 s c t B;refine⟨D,?_⟩;rw[Fh,Fh,E];rw[B] at C;exact C
def Sp(f A:Bm)(c:UInt8):Bm:=
 if c=83 then { A with st:=f.st } else if c=80 then { A with fr:=f.fr,BR:=f.BR } else if c=84 then { A with seat:=f.seat } else if c=72 then { A with share:=f.share }
 else if c=67 then { A with cur:=f.cur } else if c=65 then { A with Cm:=f.Cm } else if c=82 then { A with ref:=f.ref } else A
structure ZZ(f:Bm):Prop where
 B9:0<=f.B9/\f.B9<256
 num:0<=f.num/\f.num<65536
 BB:0<=f.BB/\f.BB<256
 per:0<=f.per/\f.per<256
 kind:0<=f.kind/\f.kind<256
 st:0<=f.st/\f.st<256
 fr:0<=f.fr/\f.fr<16777216
 BR:0<=f.BR/\f.BR<16777216
 seat:0<=f.seat/\f.seat<256
 share:0<=f.share/\f.share<256
 cur:0<=f.cur/\f.cur<65536
 Cm:0<=f.Cm/\f.Cm<4294967296
 ref:0<=f.ref/\f.ref<256
def AB8{f:Bm}(A:ZZ f)(L:Bm)(t:AE)(c:UInt8):Bq ⟨L,Cx f c++t,false⟩ c=⟨Sp f L c,t,false⟩:=by
 unfold Bq Cx Sp;by_cases E:c=83
 .simp only[Ab E];obtain⟨B,C,D⟩:=Fu 1 (be 1 f.st) t (Dn _ _);rw[B,C,D,MR _ A.st.1 A.st.2]
 by_cases F:c=80
 .simp only[AU E,Ab F];rw[E9];obtain⟨B,C,D⟩:=Fu 3 (be 3 f.fr) (be 3 f.BR++t) (Dn _ _);obtain⟨M,N,O⟩:=Fu 3 (be 3 f.BR) t (Dn _ _);simp only[B,C,D,M,N,O,lq _ A.fr.1 A.fr.2,lq _ A.BR.1 A.BR.2]
 by_cases G:c=84
 .simp only[AU E,AU F,Ab G];obtain⟨B,C,D⟩:=Fu 1 (be 1 f.seat) t (Dn _ _);rw[B,C,D,MR _ A.seat.1 A.seat.2]
 by_cases H:c=72
 .simp only[AU E,AU F,AU G,Ab H];obtain⟨B,C,D⟩:=Fu 1 (be 1 f.share) t (Dn _ _);rw[B,C,D,MR _ A.share.1 A.share.2]
 by_cases I:c=67
 .simp only[AU E,AU F,AU G,AU H,Ab I];obtain⟨B,C,D⟩:=Fu 2 (be 2 f.cur) t (Dn _ _);rw[B,C,D,WH _ A.cur.1 A.cur.2]
 by_cases J:c=65
 .simp only[AU E,AU F,AU G,AU H,AU I,Ab J];obtain⟨B,C,D⟩:=Fu 4 (be 4 f.Cm) t (Dn _ _);rw[B,C,D,TQ _ A.Cm.1 A.Cm.2]
 by_cases K:c=82
 .simp only[AU E,AU F,AU G,AU H,AU I,AU J,Ab K];obtain⟨B,C,D⟩:=Fu 1 (be 1 f.ref) t (Dn _ _);rw[B,C,D,MR _ A.ref.1 A.ref.2]
 simp only[AU E,AU F,AU G,AU H,AU I,AU J,AU K,Dg]
def ACD{f:Bm}(B:ZZ f)(t:AE)(u:AE):∀A:Bm,u.foldl Bq ⟨A,u.flatMap (Cx f)++t,false⟩=⟨u.foldl (Sp f) A,t,false⟩:=by
 induction u with
 | nil=>intro A;simp
 | cons c u C=>
  intro A;rw[Fh,I4,E9,AB8 B,C,Fh]
def ACB{f:Bm}(A:ZZ f)(t:AE):rdKind (Eu f++t)=f.kind/\Ga (Eu f++t)=FP f.gone/\
 Fx (Eu f++t)=⟨⟨f.B9,f.num,f.BB,f.gone,f.per,f.kind,0,0,0,0,0,0,0,0⟩,t,false⟩:=by
 have N:Eu f++t=be 1 f.B9++(be 2 f.num++(be 1 f.BB++(be 1 (FP f.gone)++(be 1 f.per++(be 1 f.kind++t))))):=by simp[Eu,E9]
 rw[N];obtain⟨B,H,P⟩:=Fu 1 (be 1 f.B9) (be 2 f.num++(be 1 f.BB++(be 1 (FP f.gone)++(be 1 f.per++(be 1 f.kind++t))))) (Dn _ _);obtain⟨C,I,Q⟩:=Fu 2 (be 2 f.num) (be 1 f.BB++(be 1 (FP f.gone)++(be 1 f.per++(be 1 f.kind++t)))) (Dn _ _);obtain⟨D,J,R⟩:=Fu 1 (be 1 f.BB) (be 1 (FP f.gone)++(be 1 f.per++(be 1 f.kind++t))) (Dn _ _);obtain⟨E,K,S⟩:=Fu 1 (be 1 (FP f.gone)) (be 1 f.per++(be 1 f.kind++t)) (Dn _ _);obtain⟨F,L,T⟩:=Fu 1 (be 1 f.per) (be 1 f.kind++t) (Dn _ _);obtain⟨G,M,U⟩:=Fu 1 (be 1 f.kind) t (Dn _ _);rw[MR _ A.B9.1 A.B9.2] at B;rw[WH _ A.num.1 A.num.2] at C;rw[MR _ A.BB.1 A.BB.2] at D;rw[MR _ (by unfold FP;split<;>omega) (by unfold FP;split<;>omega)] at E;rw[MR _ A.per.1 A.per.2] at F;rw[MR _ A.kind.1 A.kind.2] at G;have O:(FP f.gone==1)=f.gone:=by cases f.gone<;>rfl
 simp only[rdKind,Ga,Fx,QY,S9,LM,Iw,Jb,HT,G2,B,C,D,E,F,G,H,I,J,K,L,M,P,Q,R,S,T,U,O,and_self]
def RO{x C B:Int}(A:Cf false x C B=true):x=0:=by simpa[Cf] using A
def aH{f:Bm}(A:BY f=true):((CF f.kind).isEmpty=false/\(0<=f.B9/\f.B9<=5)/\(1<=f.num/\f.num<=999)/\(1<=f.BB/\f.BB<=99)/\(1<=f.per/\f.per<=99))/\
 Cf (Ds f.kind 83) f.st 0 5=true/\Cf (Ds f.kind 84) f.seat 0 5=true/\(0<=f.fr/\f.fr<f.BR/\f.BR<=73049)/\Cf (Ds f.kind 72) f.share 1 100=true/\Cf (Ds f.kind 67) f.cur 1 999=true/\
 Cf (Ds f.kind 65) f.Cm 0 1000000000=true/\Cf (Ds f.kind 82) f.ref 1 99=true:=by
 simp only[BY,At,Ni,BJ,G0,CJ] at A;obtain⟨⟨⟨⟨⟨⟨⟨⟨⟨⟨⟨⟨B,F⟩,G⟩,H⟩,I⟩,J⟩,K⟩,L⟩,M⟩,C⟩,D⟩,E⟩,_⟩:=A;exact⟨⟨B,F,G,H,I⟩,J,K,L,M,C,D,E⟩
def jE{f:Bm}(h:BY f=true):f.kind=1\/f.kind=2\/f.kind=3\/f.kind=4\/f.kind=5\/f.kind=6\/f.kind=7\/f.kind=8\/f.kind=9\/f.kind=10\/f.kind=11\/f.kind=12\/f.kind=13\/f.kind=14:=by
 obtain⟨⟨A,_⟩,_⟩:=aH h;by_cases B:1<=f.kind/\f.kind<=14
 .omega
 .rw[QL f.kind U] at A;cases A
def yW{f:Bm}(h:BY f=true):ZZ f:=by
 have R:=jE h;obtain⟨⟨_,M,N,O,P⟩,D,E,Q,F,A,B,C⟩:=aH h;have J:=PT D AD;have K:=PT E AD;have L:=PT F AD;have G:=PT A AD;have H:=PT B AD;have I:=PT C AD;refine⟨?_,?_,?_,?_,?_,?_,?_,?_,?_,?_,?_,?_,?_⟩<;>omega
def yV{f:Bm}(h:BY f=true):(CF f.kind).foldl (Sp f) ⟨f.B9,f.num,f.BB,f.gone,f.per,f.kind,0,0,0,0,0,0,0,0⟩=f:=by
 have I:=jE h;obtain⟨-,F,G,-,H,C,D,E⟩:=aH h;obtain⟨V,W,X,Y,Z,B,N,a,b,O,J,K,L,M⟩:=f;simp only at I F G H C D E ⊢;have S:Ds B 83=false->N=0:=λA=>RO (by rw[A] at F;exact F);have T:Ds B 84=false->O=0:=λA=>RO (by rw[A] at G;exact G);have U:Ds B 72=false->J=0:=λA=>RO (by rw[A] at H;exact H);have P:Ds B 67=false->K=0:=λA=>RO (by rw[A] at C;exact C);have Q:Ds B 65=false->L=0:=λA=>RO (by rw[A] at D;exact D);have R:Ds B 82=false->M=0:=λA=>RO (by rw[A] at E;exact E);rcases I with rfl|rfl|rfl|rfl|rfl|rfl|rfl|rfl|rfl|rfl|rfl|rfl|rfl|rfl<;>simp[CF,Sp]<;>repeat' apply And.intro
 all_goals first|exact(S AD).symm|exact(T AD).symm|exact(U AD).symm|exact(P AD).symm|exact(Q AD).symm|exact(R AD).symm
def ACG{f:Bm}(A:BY f=true)(t:AE):Ga (DU f++t)=FP f.gone/\FG (DU f++t)=⟨f,t,false⟩:=by
 have B:=yW A;unfold FG DU;rw[E9];obtain⟨C,D,E⟩:=ACB B ((CF f.kind).flatMap (Cx f)++t);rw[C,E,ACD B,yV A];exact⟨D,rfl⟩
def ABz{f:Bm}(C:BY f=true)(t:AE):DZ (DU f++t)=true/\KP (DU f++t)=f/\LL (DU f++t)=(DU f).length:=by
 obtain⟨D,A⟩:=ACG C t;have B:DZ (DU f++t)=true:=by
  unfold DZ;rw[D,A];simp only[C,Bool.not_false,Bool.and_true,Nm,CJ];unfold FP;split<;>omega
 refine⟨B,?_,?_⟩
 .unfold KP;rw[B,A];rfl
 .unfold LL;rw[B,A];simp only[Cp,CI];omega
def AB_(s:JF)(c:UInt8)(h:(Bq s c).sh=false):s.sh=false/\s.l=Cx (Bq s c).f c++(Bq s c).l:=by
 obtain⟨J,l,K⟩:=s;unfold Bq at h ⊢;unfold Cx;by_cases A:c=83
 .simp only[Ab A] at h ⊢;exact Rk
 by_cases B:c=80
 .simp only[AU A,Ab B] at h ⊢;obtain⟨e,hs⟩:=aP h AD AD;obtain⟨H,I⟩:=aP hs AD AD;refine⟨I,?_⟩;rw[E9,e,H]
 by_cases C:c=84
 .simp only[AU A,AU B,Ab C] at h ⊢;exact Rk
 by_cases D:c=72
 .simp only[AU A,AU B,AU C,Ab D] at h ⊢;exact Rk
 by_cases E:c=67
 .simp only[AU A,AU B,AU C,AU D,Ab E] at h ⊢;exact Rk
 by_cases F:c=65
 .simp only[AU A,AU B,AU C,AU D,AU E,Ab F] at h ⊢;exact Rk
 by_cases G:c=82
 .simp only[AU A,AU B,AU C,AU D,AU E,AU F,Ab G] at h ⊢;exact Rk
 simp only[AU A,AU B,AU C,AU D,AU E,AU F,AU G,Dg] at h ⊢;exact⟨h,trivial⟩
def AGL(s:JF)(c d:UInt8)(A:c≠d):Cx (Bq s d).f c=Cx s.f c:=by
 by_cases B:d=83
 .subst B;simp[Bq,Cx,A]
 by_cases C:d=80
 .subst C;simp[Bq,Cx,A]
 by_cases D:d=84
 .subst D;simp[Bq,Cx,A]
 by_cases E:d=72
 .subst E;simp[Bq,Cx,A]
 by_cases F:d=67
 .subst F;simp[Bq,Cx,A]
 by_cases G:d=65
 .subst G;simp[Bq,Cx,A]
 by_cases H:d=82
 .subst H;simp[Bq,Cx,A]
 simp[Bq,B,C,D,E,F,G,H]
def AGK(u:AE):∀(s:JF) (c:UInt8),c∉u->Cx (u.foldl Bq s).f c=Cx s.f c:=by
 induction u with
 | nil=>intro s c _;rfl
 | cons B u C=>
  intro s c A;simp only[Aj,not_or] at A;rw[Fh,C _ _ A.2,AGL s c B A.1]
def ACE(u:AE):∀s:JF,u.Nodup->(u.foldl Bq s).sh=false->s.sh=false/\s.l=u.flatMap (Cx (u.foldl Bq s).f)++(u.foldl Bq s).l:=by
 induction u with
 | nil=>intro s _ h;exact⟨h,AH⟩
 | cons c u F=>
  intro s A h;rw[List.nodup_cons] at A;rw[Fh] at h ⊢;obtain⟨B,C⟩:=F _ A.2 h;obtain⟨D,E⟩:=AB_ s c B;refine⟨D,?_⟩;rw[I4,AGK u _ c A.1,E9,<-C];exact E
def yb(k:Int):(CF k).Nodup:=by
 exact sf
def nW{f:Bm}(A:BY f=true):G7 f=DU f:=by simp[G7,A]
def dB(f:Bm):7<=(DU f).length/\(DU f).length<=43:=by
 unfold DU;rw[Cp,PL];have:=AGG f (CF f.kind);have B:=QM f.kind;have A:(Dc f.kind).size=(CF f.kind).length:=by simp[Dc,ByteArray.size]
 omega
end
structure HI(w:AA)(B Et:Nat)(cs:Array AB)(v:AB)(l:AE)(wr:AA):Prop where
 own:wr.ownsRow B 5 1 v l.length (A3 l)
 AJ:Below w w wr
 blk:AG wr Et 105 cs
 Et:Et<B
 hB:B<=wr.heap.size
 hw:w.heap.size<=B
 len:l.length<=1000
def ALt(w:AA)(B D:Nat)(cs:Array AB)(l:AE)(wr:AA)(e:Ending)(C:AA):Prop:=
 ∃A,e=.returned A/\HI w B D cs A l C/\Below B wr C
def HI.step{w wr:AA}{B C:Nat}{cs:Array AB}{v:AB}{l:AE}(h:HI w B C cs v l wr)(x:Int)(size:Nat)(D:Int)(A:AE)
 (E:l++be size x=A)(H:D=size)(G:size<=8)(F:A.length<=1000):
 AI 375 #[v,x,D] wr (ALt w B C cs A wr):=by
 subst H;have I:=h.len;go_call AKU B v l x size wr G U h.own h.hB as e w' ⟨v',rfl,ho,hb,hk⟩;rw[E] at ho;exact⟨v',rfl,⟨ho,h.AJ.trans (hb.mono h.hw),h.blk.below hb h.Et,h.Et,Ap h.hB hb.size,h.hw,F⟩,hb⟩
def HI.drew{w wr:AA}{B C:Nat}{cs:Array AB}{v:AB}{l:AE}(A:HI w B C cs v l wr):HI w B C cs v l wr.drew:=
 ⟨A.own,A.AJ.drew,A.blk,A.Et,A.hB,A.hw,A.len⟩
def HI.next{w wr C:AA}{B A:Nat}{cs:Array AB}{v:AB}{l:AE}(h:HI w B A cs v l wr)(hb:Below wr wr C):HI w B A cs v l C:=by
 refine⟨⟨h.own.1,?_⟩,h.AJ.trans (hb.mono (Ap h.hw h.hB)),h.blk.below hb h.blk.lt,h.Et,Ap h.hB hb.size,h.hw,h.len⟩;rcases h.own.2 with D|⟨g,cap,cur,hv,hg,hh,rest⟩
 .exact .inl D
 .exact rQ
def ACI(A C D:Int)(M:Bool)(E a5 a6 a7 a8 a9 Bf Be a12 Bi:Int)(w:AA):
 AI 365 #[.agg #[A,C,D,M,E,a5,a6,a7,a8,a9,Bf,Be,a12,Bi]] w (OU w (G7 ⟨A,C,D,M,E,a5,a6,a7,a8,a9,Bf,Be,a12,Bi⟩) w):=by
 rcases hv:BY ⟨A,C,D,M,E,a5,a6,a7,a8,a9,Bf,Be,a12,Bi⟩ with _|_
 .have L:=O (ai A C D M E a5 a6 a7 a8 a9 Bf Be a12 Bi);have BI:Hid (G7 ⟨A,C,D,M,E,a5,a6,a7,a8,a9,Bf,Be,a12,Bi⟩=[]):=Zb;rw[hv] at L;clear hv;go_in;go_wp2_with (go_at_call 374;refine(L.o _).mono ?_;rintro e G ⟨rfl,hb1⟩)
  exact re
 .have BI:Hid (G7 ⟨A,C,D,M,E,a5,a6,a7,a8,a9,Bf,Be,a12,Bi⟩=DU ⟨A,C,D,M,E,a5,a6,a7,a8,a9,Bf,Be,a12,Bi⟩):=Zb;cases M
  .
    have L:=O (ai A C D false E a5 a6 a7 a8 a9 Bf Be a12 Bi);rw[hv] at L;clear hv;go_in;go_wp2_with (go_at_call 374;refine(L.o _).mono ?_;rintro e G ⟨rfl,hb1⟩;have I:AG G w 105 #[A,C,D,false,E,a5,a6,a7,a8,a9,Bf,Be,a12,Bi]:=AG.below (AG.new w _ _) hb1 AH;have hcl:=I.cell)
    have H:HI w G w #[A,C,D,false,E,a5,a6,a7,a8,a9,Bf,Be,a12,Bi] AL [] G.drew:=HI.drew ⟨⟨rfl,.inl ⟨rfl,rfl⟩⟩,Below.boxed hb1,I,I.lt,Bh _,(Below.boxed hb1).size,AH⟩;clear I hcl;obtain⟨B,X⟩:∃B,B=G.heap.size:=⟨_,rfl⟩;rw[<-X] at H;clear X;refine uT ?_;generalize G.drew=AX at *;have hcl:=H.blk.cell;have AQ:=H.Et;refine Ih ?_;intro K hK;refine(H.step A 1 _ (be 1 A) AH rfl AD FC).mono ?_;rintro e AY ⟨AS,rfl,P,Y⟩;refine hK _ _ B AK Y ?_;clear hK K;have u:=P.blk.cell;clear Y;clear hcl H;refine Ih ?_;intro K hK;refine(P.step C 2 _ (be 1 A++be 2 C) AH rfl AD FC).mono ?_;rintro e AZ ⟨AT,rfl,Q,Z⟩;refine hK _ _ B AK Z ?_;clear hK K;have v:=Q.blk.cell;clear Z;clear u P;refine Ih ?_;intro K hK;refine(Q.step D 1 _ (be 1 A++be 2 C++be 1 D) AH rfl AD FC).mono ?_;rintro e Aa ⟨AU,rfl,R,a⟩;refine hK _ _ B AK a ?_;clear hK K;have x:=R.blk.cell;clear a;clear v Q;refine Ih ?_;intro K hK;refine(R.step 0 1 _ (be 1 A++be 2 C++be 1 D++be 1 0) AH rfl AD FC).mono ?_;rintro e Ab ⟨AV,rfl,S,b⟩;refine hK _ _ B AK b ?_;clear hK K;have y:=S.blk.cell;clear b;clear x R;refine Ih ?_;intro K hK;refine(S.step E 1 _ (be 1 A++be 2 C++be 1 D++be 1 0++be 1 E) AH rfl AD FC).mono ?_;rintro e Ac ⟨AW,rfl,T,c⟩;refine hK _ _ B AK c ?_;clear hK K;have AB:=T.blk.cell;clear c;clear y S;refine Ih ?_;intro K hK;refine(T.step a5 1 _ (be 1 A++be 2 C++be 1 D++be 1 0++be 1 E++be 1 a5) AH rfl AD FC).mono ?_;rintro e Ad ⟨AM,rfl,V,d⟩;refine hK _ _ B AK d ?_;clear hK K;have i:=V.blk.cell;clear d;clear AB T;refine HM ?_;have hcl:=i;clear i;go_wp2_with (go_at_call 84;refine(QT _ _).mono ?_;rintro e AN ⟨rfl,f⟩)
    have t:=V.next f
    clear hcl f V;obtain⟨s,N⟩:∃s,s=Dc a5:=⟨_,rfl⟩;have Fp:=O N;rw[<-N];clear N;have AR:s.size<=6:=Zl;have m:=PL ⟨A,C,D,false,E,a5,a6,a7,a8,a9,Bf,Be,a12,Bi⟩;obtain⟨F,J⟩:∃F,F=Eu ⟨A,C,D,false,E,a5,a6,a7,a8,a9,Bf,Be,a12,Bi⟩:=⟨_,rfl⟩;have U5:=O J;have r:HI w B w #[A,C,D,false,E,a5,a6,a7,a8,a9,Bf,Be,a12,Bi] AM F AN:=by
     have e:F=be 1 A++be 2 C++be 1 D++be 1 0++be 1 E++be 1 a5:=by rw[J];simp[Eu,FP]
     rw[e];exact t
    rw[<-J] at m;clear J t;go_loopw [4,6] (λAJ W wr=>∃(j:Nat) (l:AE),j<=s.size/\W=.int .i64 j/\HI w B w #[A,C,D,false,E,a5,a6,a7,a8,a9,Bf,Be,a12,Bi] AJ l wr/\l.length<=7+6*j/\Hid (l=F++(s.data.toList.take j).flatMap (Cx ⟨A,C,D,false,E,a5,a6,a7,a8,a9,Bf,Be,a12,Bi⟩)))
     (λ_ W _=>s.size-(intOf W).toNat)
    case atStart=>exact⟨0,F,Az _,rfl,r,U,Uz⟩
    case round=>
     obtain⟨j,l,AO,rfl,hst,AP,heq⟩:=hrel;clear r m;by_cases hlt:j<s.size
     .have o:s[j]∈CF a5:=by
       exact qw
      have Nb:=Of a5 _ o;clear o;have By:Hid ((s.data.toList.take (j+1)).flatMap (Cx ⟨A,C,D,false,E,a5,a6,a7,a8,a9,Bf,Be,a12,Bi⟩)=(s.data.toList.take j).flatMap (Cx ⟨A,C,D,false,E,a5,a6,a7,a8,a9,Bf,Be,a12,Bi⟩)++Cx ⟨A,C,D,false,E,a5,a6,a7,a8,a9,Bf,Be,a12,Bi⟩ s[j]):=T5 s.data.toList _ j JP;exact ub
     .have AC:j=s.size:=U;subst AC;go_wp2;go_ret;have e:l=DU ⟨A,C,D,false,E,a5,a6,a7,a8,a9,Bf,Be,a12,Bi⟩:=by
       exact rh
      exact sZ
  .
    have L:=O (ai A C D true E a5 a6 a7 a8 a9 Bf Be a12 Bi);rw[hv] at L;clear hv;go_in;go_wp2_with (go_at_call 374;refine(L.o _).mono ?_;rintro e G ⟨rfl,hb1⟩;have I:AG G w 105 #[A,C,D,true,E,a5,a6,a7,a8,a9,Bf,Be,a12,Bi]:=AG.below (AG.new w _ _) hb1 AH;have hcl:=I.cell)
    have H:HI w G w #[A,C,D,true,E,a5,a6,a7,a8,a9,Bf,Be,a12,Bi] AL [] G.drew:=HI.drew ⟨⟨rfl,.inl ⟨rfl,rfl⟩⟩,Below.boxed hb1,I,I.lt,Bh _,(Below.boxed hb1).size,AH⟩;clear I hcl;obtain⟨B,X⟩:∃B,B=G.heap.size:=⟨_,rfl⟩;rw[<-X] at H;clear X;refine uT ?_;generalize G.drew=AX at *;have hcl:=H.blk.cell;have AQ:=H.Et;refine Ih ?_;intro K hK;refine(H.step A 1 _ (be 1 A) AH rfl AD FC).mono ?_;rintro e AY ⟨AS,rfl,P,Y⟩;refine hK _ _ B AK Y ?_;clear hK K;have u:=P.blk.cell;clear Y;clear hcl H;refine Ih ?_;intro K hK;refine(P.step C 2 _ (be 1 A++be 2 C) AH rfl AD FC).mono ?_;rintro e AZ ⟨AT,rfl,Q,Z⟩;refine hK _ _ B AK Z ?_;clear hK K;have v:=Q.blk.cell;clear Z;clear u P;refine Ih ?_;intro K hK;refine(Q.step D 1 _ (be 1 A++be 2 C++be 1 D) AH rfl AD FC).mono ?_;rintro e Aa ⟨AU,rfl,R,a⟩;refine hK _ _ B AK a ?_;clear hK K;have x:=R.blk.cell;clear a;clear v Q;refine Ih ?_;intro K hK;refine(R.step 1 1 _ (be 1 A++be 2 C++be 1 D++be 1 1) AH rfl AD FC).mono ?_;rintro e Ab ⟨AV,rfl,S,b⟩;refine hK _ _ B AK b ?_;clear hK K;have y:=S.blk.cell;clear b;clear x R;refine Ih ?_;intro K hK;refine(S.step E 1 _ (be 1 A++be 2 C++be 1 D++be 1 1++be 1 E) AH rfl AD FC).mono ?_;rintro e Ac ⟨AW,rfl,T,c⟩;refine hK _ _ B AK c ?_;clear hK K;have AB:=T.blk.cell;clear c;clear y S;refine Ih ?_;intro K hK;refine(T.step a5 1 _ (be 1 A++be 2 C++be 1 D++be 1 1++be 1 E++be 1 a5) AH rfl AD FC).mono ?_;rintro e Ad ⟨AM,rfl,V,d⟩;refine hK _ _ B AK d ?_;clear hK K;have i:=V.blk.cell;clear d;clear AB T;refine HM ?_;have hcl:=i;clear i;go_wp2_with (go_at_call 84;refine(QT _ _).mono ?_;rintro e AN ⟨rfl,f⟩)
    have t:=V.next f
    clear hcl f V;obtain⟨s,N⟩:∃s,s=Dc a5:=⟨_,rfl⟩;have Fp:=O N;rw[<-N];clear N;have AR:s.size<=6:=Zl;have m:=PL ⟨A,C,D,true,E,a5,a6,a7,a8,a9,Bf,Be,a12,Bi⟩;obtain⟨F,J⟩:∃F,F=Eu ⟨A,C,D,true,E,a5,a6,a7,a8,a9,Bf,Be,a12,Bi⟩:=⟨_,rfl⟩;have U5:=O J;have r:HI w B w #[A,C,D,true,E,a5,a6,a7,a8,a9,Bf,Be,a12,Bi] AM F AN:=by
     have e:F=be 1 A++be 2 C++be 1 D++be 1 1++be 1 E++be 1 a5:=by rw[J];simp[Eu,FP]
     rw[e];exact t
    rw[<-J] at m;clear J t;go_loopw [4,6] (λAJ W wr=>∃(j:Nat) (l:AE),j<=s.size/\W=.int .i64 j/\HI w B w #[A,C,D,true,E,a5,a6,a7,a8,a9,Bf,Be,a12,Bi] AJ l wr/\l.length<=7+6*j/\Hid (l=F++(s.data.toList.take j).flatMap (Cx ⟨A,C,D,true,E,a5,a6,a7,a8,a9,Bf,Be,a12,Bi⟩)))
     (λ_ W _=>s.size-(intOf W).toNat)
    case atStart=>exact⟨0,F,Az _,rfl,r,U,Uz⟩
    case round=>
     obtain⟨j,l,AO,rfl,hst,AP,heq⟩:=hrel;clear r m;by_cases hlt:j<s.size
     .have o:s[j]∈CF a5:=by
       exact qw
      have Nb:=Of a5 _ o;clear o;have By:Hid ((s.data.toList.take (j+1)).flatMap (Cx ⟨A,C,D,true,E,a5,a6,a7,a8,a9,Bf,Be,a12,Bi⟩)=(s.data.toList.take j).flatMap (Cx ⟨A,C,D,true,E,a5,a6,a7,a8,a9,Bf,Be,a12,Bi⟩)++Cx ⟨A,C,D,true,E,a5,a6,a7,a8,a9,Bf,Be,a12,Bi⟩ s[j]):=T5 s.data.toList _ j JP;exact ub
     .have AC:j=s.size:=U;subst AC;go_wp2;go_ret;have e:l=DU ⟨A,C,D,true,E,a5,a6,a7,a8,a9,Bf,Be,a12,Bi⟩:=by
       exact rh
      exact sZ
def MQ(B:Nat)(v:AB)(l:AE)(w:AA)(h:Af B w v l)(A:l.length<=6):
 AI 364 #[v] w (BX (.int .i64 (AQ l)) w):=by
 exact se
section
variable{l:AE}{f:Bm}
def KM(k:Nat)(l:AE)(h:k<=l.length):BZ k l=AQ (l.take k)/\BD k l=l.drop k/\∀A,Cv k l A=A:=by
 have B:¬l.length<k:=U;simp[BZ,BD,Cv,B]
def ke(B:(Fx l).sh=false):7<=l.length:=by
 unfold Fx at B;dsimp only at B;unfold QY at B;obtain⟨M,A⟩:=LG B;obtain⟨G,A⟩:=LG A;obtain⟨F,A⟩:=LG A;obtain⟨E,A⟩:=LG A;obtain⟨D,A⟩:=LG A;obtain⟨C,_⟩:=LG A;have H:(G2 l).length=l.length-1:=by unfold G2;rw[(KM 1 l C).2.1,EM]
 have I:(HT l).length=(G2 l).length-2:=by unfold HT;rw[(KM 2 _ D).2.1,EM]
 have J:(Jb l).length=(HT l).length-1:=by unfold Jb;rw[(KM 1 _ E).2.1,EM]
 have K:(Iw l).length=(Jb l).length-1:=by unfold Iw;rw[(KM 1 _ F).2.1,EM]
 have L:(LM l).length=(Iw l).length-1:=by unfold LM;rw[(KM 1 _ G).2.1,EM]
 omega
def kY(A:DZ l=true):(FG l).sh=false:=by
 unfold DZ at A;cases B:(FG l).sh
 .rfl
 .rw[B] at A;simp at A
def AB3(A:(FG l).sh=true):DZ l=false:=by
 unfold DZ;rw[A];simp
def AB4(C:l.length<7):DZ l=false:=by
 cases B:DZ l
 .rfl
 .have A:=kY B;unfold FG at A;have:=ke (kf _ _ [] A).1;omega
def AB6{u:AE}{c:UInt8}{v:AE}(C:CF (rdKind l)=u++c::v)(A:(Bq (u.foldl Bq (Fx l)) c).sh=true):DZ l=false:=by
 apply AB3;unfold FG;rw[C,RD,Fh];cases B:(v.foldl Bq (Bq (u.foldl Bq (Fx l)) c)).sh
 .have:=(kf _ _ [] B).1;rw[A] at this;cases this
 .rfl
def kd(G E F D B C A:UInt8)(t:AE):rdKind (G::E::F::D::B::C::A::t)=(A.toNat:Int)/\Ga (G::E::F::D::B::C::A::t)=(B.toNat:Int)/\
 Fx (G::E::F::D::B::C::A::t)=⟨⟨(G.toNat:Int),AQ [E,F],(D.toNat:Int),(B.toNat:Int)==1,(C.toNat:Int),(A.toNat:Int),0,0,0,0,0,0,0,0⟩,t,false⟩:=by
 have a:∀H:UInt8,AQ [H]=(H.toNat:Int):=λH=>by simp[AQ]
 obtain⟨I,O,U⟩:=Fu 1 [G] (E::F::D::B::C::A::t) rfl;obtain⟨J,P,V⟩:=Fu 2 [E,F] (D::B::C::A::t) rfl;obtain⟨K,Q,W⟩:=Fu 1 [D] (B::C::A::t) rfl;obtain⟨L,R,X⟩:=Fu 1 [B] (C::A::t) rfl;obtain⟨M,S,Y⟩:=Fu 1 [C] (A::t) rfl;obtain⟨N,T,Z⟩:=Fu 1 [A] t rfl;simp only[DC,Dg,a] at I J K L M N O P Q R S T U V W X Y Z;simp only[rdKind,Ga,Fx,QY,S9,LM,Iw,Jb,HT,G2,I,J,K,L,M,N,O,P,Q,R,S,T,U,V,W,X,Y,Z,and_self]
def seven(H:7<=l.length):∃A B C D E F G t,l=A::B::C::D::E::F::G::t:=by
 match l,H with
 | A::B::C::D::E::F::G::t,_=>exact⟨A,B,C,D,E,F,G,t,rfl⟩
def AB'(s:JF)(c:UInt8):Eu (Bq s c).f=Eu s.f/\(Bq s c).f.kind=s.f.kind:=by
 by_cases A:c=83
 .subst A;exact⟨rfl,rfl⟩
 by_cases B:c=80
 .subst B;exact⟨rfl,rfl⟩
 by_cases C:c=84
 .subst C;exact⟨rfl,rfl⟩
 by_cases D:c=72
 .subst D;exact⟨rfl,rfl⟩
 by_cases E:c=67
 .subst E;exact⟨rfl,rfl⟩
 by_cases F:c=65
 .subst F;exact⟨rfl,rfl⟩
 by_cases G:c=82
 .subst G;exact⟨rfl,rfl⟩
 simp[Bq,A,B,C,D,E,F,G]
def ACF(u:AE):∀s:JF,Eu (u.foldl Bq s).f=Eu s.f/\(u.foldl Bq s).f.kind=s.f.kind:=by
 induction u with
 | nil=>intro s;exact⟨rfl,rfl⟩
 | cons c u E=>
  intro s;rw[Fh];obtain⟨A,B⟩:=E (Bq s c);obtain⟨C,D⟩:=AB' s c;exact⟨A.trans C,B.trans D⟩
def AKb(b:UInt8):be 1 (b.toNat:Int)=[b]:=by
 have:=pM b;simpa[AQ] using this
def kX{r:AE}(h:FG l=⟨f,r,false⟩):DU f++r=l↔Ga l<=1:=by
 have H:(FG l).sh=false:=R_;unfold FG at h H;obtain⟨R,C⟩:=ACE _ (Fx l) (yb _) H;obtain⟨D,E⟩:=ACF (CF (rdKind l)) (Fx l);rw[h] at C D E;simp only at C D E;obtain⟨J,F,G,K,A,L,M,I,rfl⟩:=seven (ke R);obtain⟨O,P,Q⟩:=kd J F G K A L M I;rw[Q] at C D E;rw[O] at C;simp only at C D E;have T:DU f++r=Eu f++I:=by
  unfold DU;rw[E,E9,<-C]
 rw[T,D,P];have N:be 2 (AQ [F,G])=[F,G]:=Xe F G;unfold Eu;simp only[AKb,N];have W:=A.toNat_lt;have V:be 1 (FP ((A.toNat:Int)==1))=[byteOf (FP ((A.toNat:Int)==1))]:=by simp[be]
 rw[V];simp only[DC,Dg,Mh,true_and,Jx];constructor
 .intro S;rw[<-S];have:=RZ (FP ((A.toNat:Int)==1));have B:FP ((A.toNat:Int)==1)=0\/FP ((A.toNat:Int)==1)=1:=by unfold FP;split<;>simp
  rcases B with B|B<;>rw[B] at this ⊢<;>omega
 .intro X;have B:A.toNat=0\/A.toNat=1:=U;apply J0;rcases B with B|B<;>rw[B]<;>rfl
def ABw{n:Nat}(C:FG l=⟨f,l.drop n,false⟩):DZ l=(BY f&&decide (DU f=l.take n)):=by
 have D:=kX C;have E:DU f++l.drop n=l↔DU f=l.take n:=by
  constructor
  .intro A;have F:DU f++l.drop n=l.take n++l.drop n:=by rw[A,Md]
   exact List.append_cancel_right F
  .intro A;rw[A,Md]
 unfold DZ;rw[C];by_cases B:Ga l<=1
 .have:DU f=l.take n:=E.1 (D.2 B);simp[B,this]
 .have:¬DU f=l.take n:=λA=>B (D.1 (E.2 A));simp[B,this]
end
section
variable{B B':Nat}{v v':AB}{l l':AE}{w:AA}
def AKJ(l:AE):Lib.bytesOf (l.map λb=>(b.toNat:Int))=l:=by
 induction l with
 | nil=>rfl
 | cons b l A=>
  have:UInt8.ofNat ((b.toNat:Int)).toNat=b:=AH;simp only[Lib.bytesOf,HA] at A ⊢;rw[this,A]
def o6(h:Af B w v l):(Extern.Bytes.bytesOf v).run prog w=.ok ⟨l.toArray⟩ w:=by
 obtain⟨G,c,rfl,M,h⟩:=h;rcases G with _|H
 .have:l=[]:=by
   rcases l with _|⟨A,l⟩
   .rfl
   .obtain⟨_,_,C,_⟩:=h AH;cases C
  subst this;rfl
 .have D:=Lib.run_loadBytesX (P:=prog) w (l.map λA=>(A.toNat:Int)) H .empty (λE N F=>by
   rw[JA,I6] at F;obtain⟨L,hu,rfl⟩:=F;obtain⟨A,o,C,_,J⟩:=h xF;injection C with C;subst C;have I:(⟨A,o,none⟩:Addr).add E=⟨A,o+E,none⟩:=iE;rw[I];exact J E L hu)
  rw[AKJ,Lj] at D;have K:(⟨ByteArray.empty.data++l.toArray⟩:ByteArray)=⟨l.toArray⟩:=by
   apply ByteArray.ext;show(#[]:Array UInt8)++l.toArray=l.toArray;simp
  rw[K] at D;exact D
def AAT(h:Af B w v l)(A:Af B' w v' l'):
 (callFunc 183 #[v,v']).run prog w=.ok (.value (.int .i64 (Lib.compareBytes l l'))) w:=by
 rw[run_callFunc_extern func183 AF AF AF (e:=Extern.BytealgCompare.compare) AF];have C:(Extern.BytealgCompare.compare #[v,v']).run prog w=.ok (.int .i64 (Lib.compareBytes l l')) w:=by
  change Sem.run prog (do pure (goInt (Extern.BytealgCompare.cmp (<-Extern.Bytes.bytesOf v) (<-Extern.Bytes.bytesOf v')))) w=_
  simp only[Lf,o6 h,o6 A,Q_,Result.andThen];rw[Lib.cmp_eq];rfl
 rw[C];rfl
def AKc(w:AA)(h:Af B w v l)(A:Af B' w v' l'):
 AI 115 #[v,v'] w (BX (.int .i64 (Lib.compareBytes l l')) w):=by
 have C:=AAT h A;exact FA
def o7:∀x y:AE,Op.bytesLess x y=decide (Lib.compareBytes x y<0)
 | [],[]=>rfl
 | [],_::_=>rfl
 | _::_,[]=>rfl
 | a::x,b::y=>by
  have G:=o7 x y;simp only[Op.bytesLess,Lib.compareBytes];by_cases A:a<b
  .simp[A]
  .by_cases C:b<a
   .have F:a≠b:=λD=>by subst D;exact A C
    simp[A,C,F]
   .have E:a=b:=UInt8.le_antisymm (UInt8.not_lt.1 C) (UInt8.not_lt.1 A);subst E;simp[A,G]
def AJM(x:AE):Lib.compareBytes x x=0:=by
 induction x with
 | nil=>rfl
 | cons A x C=>
  have:¬A<A:=UInt8.lt_irrefl A;simp[Lib.compareBytes,this,C]
def oX:∀x y:AE,Lib.compareBytes x y=0->x=y
 | [],[],_=>rfl
 | [],_::_,h=>v_
 | _::_,[],h=>v_
 | a::x,b::y,h=>by
  simp only[Lib.compareBytes] at h;by_cases A:a<b
  .simp[A] at h
  .by_cases C:b<a
   .simp[A,C] at h
   .have D:a=b:=UInt8.le_antisymm (UInt8.not_lt.1 C) (UInt8.not_lt.1 A);subst D;simp[A] at h;rw[oX x y h]
end
