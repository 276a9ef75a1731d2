import Derived.Test.YtcpcgpbohiineaaGreatDoorY02
import Derived.Test.YtcpcgpbohiineaaGreatDoorY04
import Derived.Test.YtcpcgpbohiineaaGreatDoorY05
import Derived.Test.YtcpcgpbohiineaaGreatDoorY07
namespace Go.Proofs.YtcpcgpbohiineaaGreatDoor
open Go.RowKit Go.Proofs.Tryz
set_option linter.all false
set_option maxRecDepth 100000
set_option maxHeartbeats 4000000
section
variable{B:Nat}{w':AA}
structure Cl(w:World):Prop where
 AFp:∃m,w.cell? ⟨0,0,none⟩=some (.int .i64 m)
 zL:Lib.TabIs prog w "internal/strconv.uint64pow10" .u64 Lib.pow10Tab
 lo:6<=w.heap.size
def nR:prog.globalNamed "internal/strconv.uint64pow10" = some 3:=AF
def yU{W C:AA}{n:String}{g:Nat}{cs:Array AB}(A:W.var? prog n=some cs)(E:prog.globalNamed n=some g)(D:Below B W C)(F:g<B):C.var? prog n=some cs:=by
 unfold World.var? at *;rw[E] at A ⊢;simp only[Option.bind_some] at A ⊢;rw[D.block g F];exact A
def Cl.below{w:AA}(h:Cl w)(A:Below B w w')(C:6<=B):Cl w':=by
 obtain⟨⟨G,E⟩,F,D⟩:=h;refine⟨⟨G,?_⟩,?_,Ap D A.size⟩
 .rw[<-E];exact A.cell (p:=⟨0,0,none⟩) (Co (by decide:_<6) C)
 .exact yU F nR A U
def Cl.after{w:AA}(A:Cl w)(C:Below w w w'):Cl w':=A.below C A.lo
def cP(n:Nat)(w:AA)(A:Cl w)(h:n<1000000000000):
 AI 348 #[n] w (Bz (.string ⟨(BG n).toArray⟩) w):=by
 go_call ALS (n:Int) U U w A.zL as e w' ⟨rfl,k,os,rfl⟩;rw[AGy h];exact⟨rfl,Lib.below_grow _ _ AK _ _⟩
def AIw(t:ByteArray)(w:AA)(A:Cl w)(E:t.size<=1000):
 AI 369 #[.string t,.string ⟨#[46]⟩] w (Bz (.tuple #[.string ⟨(t.data.toList.takeWhile B4).toArray⟩,.string ⟨((t.data.toList.dropWhile B4).drop 1).toArray⟩,.bool (t.data.toList.any (λc=>c==46))]) w):=by
 obtain⟨D,C⟩:=A.AFp;go_call ALR t ⟨#[46]⟩ D w U C as e w' ⟨rfl,n,rfl⟩;rw[show(⟨#[46]⟩:ByteArray).data.toList=[46] from rfl,AIu];exact⟨rfl,Do DL n⟩
def WJ(l:AE)(w:AA)(h:l.all CD=true)(Q:l.length<=9):
 AI 370 #[.string ⟨l.toArray⟩] w (BX (.tuple #[.int .i64 (Cc l:Int),true]) w):=by
 have D:=O h;have J:=O (show l.take l.length=l from F6);clear h;go_in;go_wp2;go_loop [2,4] (λP C=>∃i:Nat,i<=l.length/\P=.int .i64 (Cc (l.take i):Int)/\C=.int .i64 (i:Int)) (λ_ C=>l.length-(intOf C).toNat)
 case atStart=>exact⟨0,Az _,rfl,rfl⟩
 case round=>
  obtain⟨i,V,rfl,rfl⟩:=hrel;by_cases hlt:i<l.length
  .have M:=Ar i l.length;have T:=Ar i l.length;have F:(ByteArray.mk l.toArray)[i]' Zt=l[i]:=rfl;have A:CD l[i]=true:=List.all_eq_true.mp D.o _ (Gq _);have G:48<=l[i].toNat/\l[i].toNat<=57:=by
    unfold CD at A;simpa using A
   have N:=NB (l.take i) (by rw[DS];intro c L;exact List.all_eq_true.mp D.o c (Q7 L));have H:10 ^ (l.take i).length<=10 ^ 9:=I_ AD M8;have W:Cc (l.take i)<1000000000:=by
    have K:(10:Nat) ^ 9=1000000000:=AD;rw[K] at H;omega
   have E:=O (aI l i hlt);rw[<-F] at A G E;have I:=O A;clear A F N H;obtain⟨R,S⟩:=G;generalize Cc (l.take i)=X at *;go_wp2_with (go_at_call 347;refine(lK _ _ I.o _).mono ?_;rintro e w' ⟨rfl,rfl⟩)
   go_round
   case rel=>exact⟨i+1,U,by rw[E.o];go_num,A7⟩
   case measure=>exact A5
  .obtain rfl:i=l.length:=U;have M:decide ((l.length:Int)<(l.length:Int))=false:=AH;rw[J.o];go_wp2;go_ret2;exact N1
end
def um(v:EP)(A:Int)(w:AA)(e:Ending)(B:AA):Prop:=e=.returned (.tuple #[.agg #[v.n,v.d],A,true])/\Below w w B
structure FQ(w X:AA)(n d:Int):Prop where
 AJ:Below w w X
 blk:AG X w 119 #[n,d]
def FQ.below{w A C:AA}{n d:Int}(B:FQ w A n d)(D:Below A A C):FQ w C n d:=⟨AW B.AJ D,B.blk.below D B.blk.lt⟩
def FQ.V7{w A:AA}{n d:Int}(h:FQ w A n d)(m:Int):FQ w (A.setCell ⟨w,0,none⟩ m) m d:=⟨h.AJ.setCell AK _,h.blk.put 0 _⟩
def FQ.Fy{w A:AA}{n d:Int}(h:FQ w A n d)(m:Int):FQ w (A.setCell ⟨w,1,none⟩ m) n m:=⟨h.AJ.setCell AK _,h.blk.put 1 _⟩
def FQ.new(w:AA):FQ w (w.alloc (.cells #[(),()] 119)) 0 0:=⟨(AN _ _).alloc AK _,AG.new w _ _⟩
structure Ku(w X:AA)(it:Nat)(b:AE)(pos:Nat)(n d:Int):Prop where
 Gz:FQ w X n d
 ix:X.heap[it]? = some (.stringIter ⟨b.toArray⟩ pos)
 lo:w.heap.size<it
def Ku.next{w C:AA}{B:Nat}{b:AE}{D:Nat}{n d:Int}(A:Ku w C B b D n d)(q:Nat):Ku w (C.iterAt B ⟨b.toArray⟩ q) B b q n d:=
 ⟨⟨Lib.below_iterAt A.Gz.AJ (I3 A.lo) _ _,(Lib.iterAt_other C B w _ q (by have:=A.lo;omega)).trans A.Gz.blk⟩,Lib.iterAt_heap C B _ D q A.ix,A.lo⟩
def Ku.Fy{w C:AA}{B:Nat}{b:AE}{D:Nat}{n d:Int}(A:Ku w C B b D n d)(m:Int):Ku w (C.setCell ⟨w,1,none⟩ m) B b D n m:=
 ⟨A.Gz.Fy m,(Lg C ⟨w,1,none⟩ _ B (by have:=A.lo;show B≠w.heap.size;omega)).trans A.ix,A.lo⟩
def iterPos_of{w:AA}{k:Nat}{s:ByteArray}{p:Nat}(A:w.heap[k]? = some (.stringIter s p)):w.iterPos k=p:=by simp[World.iterPos,A]
def AMg(j:Int)(x y:Nat):Prop:=j=0\/(j=1/\Pp x y)\/(j=2/\Pp x y/\vA x y)
def XS(w:AA)(g:Nat):Nat:=match w.cell? ⟨g,1,none⟩ with|some (.int _ n)=>n.toNat|_=>0
def FQ.den{w A:AA}{n d:Int}(B:FQ w A n d):XS A w.heap.size=d.toNat:=by
 have:=B.blk.cell 1;simp only[CH,A8,Bt] at this;simp[XS,this]
def AEF(s:ByteArray)(a b:AE)(F:Int)(w:AA)(Z:Cl w)(g:s.size<=100)(hp:G3 s.data.toList=some (a,b,F)):
 AI 349 #[.string s] w (um (B8 (Cc (a++b)) (10 ^ b.length)) F w):=by
 have A:=O (bS hp);have J:0<s.size:=by
  rcases Mf s.size with E|E
  .have h1:=A.o.a1;have he:s.data.toList=[]:=PD.1 (by simpa using E);rw[A.o.ha,he] at h1;simp[DO] at h1
  .exact E
 have u:=(s[s.size-1]' U).toNat_lt;have Q:=O Z;have CT:=O (FQ.new w);go_in;go_upto_if 25 with fail;go_cut [0,2,3] (λx p y o=>∃(B:ByteArray) (d:Int),x=.string B/\p=.pointer w.heap.size/\y=.int .i64 d/\B.size<=100/\Hid (DO s.data.toList=(B.data.toList,d))/\FQ w o 0 0);case first=>as_aux_lemma=>
  have E:decide ((0:Int)<(s.size:Int))=true:=AM;by_cases K:(s[s.size-1]' U).toNat=100
  .have H:=O (oK s J K);have R:(((s[s.size-1]' U).toNat:Int)==100)=true:=AM;go_wp2_with fail;go_meet;exact⟨_,3,rfl,rfl,rfl,AM,Zk,CT.o⟩
  .have R:(((s[s.size-1]' U).toNat:Int)==100)=false:=AM;by_cases L:(s[s.size-1]' U).toNat=109
   .have H:=O (oJ s J L);have S:(((s[s.size-1]' U).toNat:Int)==109)=true:=AM;go_wp2_with fail;go_meet;exact⟨_,4,rfl,rfl,rfl,AM,Zk,CT.o⟩
   .have H:=O (oI s J K L);have S:(((s[s.size-1]' U).toNat:Int)==109)=false:=AM;go_wp2_with fail;go_meet;exact⟨_,2,rfl,rfl,rfl,g,H.o,CT.o⟩
 obtain⟨B,d,rfl,rfl,rfl,t,D,hv⟩:=hcut;have CT:=O hv;have P:Hid (∀W,Cl W->AI 369 #[.string B,.string ⟨#[46]⟩] W λe w'=>e=.returned (.tuple #[.string ⟨a.toArray⟩,.string ⟨b.toArray⟩,.bool (B.data.toList.any (λc=>c==46))])/\Below W W w'):=by
  intro W Y;have:=AIw B W Y U;have G:=A.o.ha;have I:=A.o.hb;rw[D.o] at G I;rwa [<-G,<-I] at this
 have HD:=O (show F=d by rw[A.o.hd,D.o]);have gq:=O (show B.data.toList.any (λc=>c==46)=true->1<=b.length/\b.length<=4 by have:=A.o.dot;rwa [D.o] at this);have Px:=O (show B.data.toList.any (λc=>c==46)=false->b=[] by
  intro h;rw[A.o.hb,D.o];have T:∀(C:AE),C.any (λc=>c==46)=false->C.dropWhile B4=[]:=by
   intro C;induction C with
   | nil=>intro _;rfl
   | cons x C i=>
    intro h;rw[Qy,Bool.or_eq_false_iff] at h;have hb:B4 x=true:=vv;rw[Tg,hb];simp[i h.2]
  rw[T _ h];rfl)
 go_wp2_with fail;go_call P.o _ (Q.o.after CT.o.AJ) as e w1 ⟨rfl,hb1⟩;replace CT:=O (CT.o.below hb1);generalize B.data.toList.any (λc=>c==46)=pt at *;have r:=A.o.a1;have a9:=A.o.a9;have U7:=O A.o.dU;have N:=O A.o.a0;have G:=A4 a.length 1;have I:=A4 9 a.length;by_cases h1:1<a.length
 .have l:=Ar 1 a.length;have AB:=Ar 0 a.length;have hat:(ByteArray.mk a.toArray)[0]' Zz=a[0]' U:=rfl;have f:a[0]' U≠48:=λe=>N.o h1 (by rw[List.head?_eq_getElem?,BL U,e]);have V:(((ByteArray.mk a.toArray)[0]' Zz).toNat:Int)≠48:=by
   rw[hat];intro e;apply f;have:(a[0]' U).toNat=48:=U;have h2:=congrArg UInt8.ofNat this;simpa using h2
  have AC:=Aw.2 V;exact uL
 .have l:=A4 1 a.length;exact uL
