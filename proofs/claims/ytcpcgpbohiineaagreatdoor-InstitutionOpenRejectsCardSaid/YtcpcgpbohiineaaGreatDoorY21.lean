import Derived.Test.YtcpcgpbohiineaaGreatDoorY16
namespace Go.Proofs.YtcpcgpbohiineaaGreatDoor
open Go.RowKit Go.Proofs.Tryz
set_option linter.all false
set_option maxRecDepth 100000
set_option maxHeartbeats 4000000
section
variable{ns:Ay}
def zf{B:Ay}(E:ns.Pairwise (· < ·))(I:B.Nodup)(J:∀n,n∈B↔n∈ns):B.mergeSort (λx y=>decide (x<=y))=ns:=by
 have G:ns.Nodup:=E.imp (λA=>by omega);have H:(B.mergeSort λx y=>decide (x<=y)).Perm ns:=(List.mergeSort_perm _ _).trans ((List.perm_ext_iff_of_nodup I G).2 J);refine List.Perm.eq_of_pairwise (le:=λx y:Int=>decide (x<=y)=true) (λC D _ _ A F=>by simp at A F;omega) ?_ (E.imp (λA=>by simp;omega)) H;exact List.pairwise_mergeSort (λC D c A F=>by simp at *;omega) (λC D=>by simp;omega) _
def AAP(l:Ay)(m:Int):∃A a,DF (l++[m])=A++[(a,m+1)]:=by
 unfold DF;rw[RD];generalize l.foldl EU []=o;simp only[Fh,List.foldl_nil];unfold EU;split
 .split
  .exact⟨_,_,rfl⟩
  .exact⟨_,_,rfl⟩
 .exact⟨[],m,rfl⟩
def AAR(F:ns.Pairwise (· < ·)){i:Nat}{n:Int}(E:ns[i]? = some n){p:Int × Int}{B:List (Int × Int)}(h:DF (ns.take i)=B++[p]):p.2<=n:=by
 cases i with
 | zero=>simp[DF] at h
 | succ i=>
  obtain⟨D,rfl⟩:=Cd.1 E;rw[Mj U] at h;obtain⟨G,H,C⟩:=AAP (ns.take i) ns[i];rw[C] at h;have:=List.append_inj' h rfl;obtain⟨_,A⟩:=this;injection A with A;subst A;have:=List.pairwise_iff_getElem.1 F i (i+1) U D U;simp only;omega
def lk{K:List Kd}(C:∀x∈K,F7 x)(s:Int):∀n∈C4 K s,1<=n/\n<=999:=by
 intro n D;obtain⟨x,E,_,rfl⟩:=TN.1 D;obtain⟨A,_,B⟩:=C x E;have:=RS A;rw[B];omega
end
section
open Go.RowKit Go.Shelf Go.Lib Go.Sort
def Kh(n:Int):List AB:=[.int .i64 n,.int .i64 (n+1)]
def NT(a b:Int):Bool:=decide (a<b)
def zM:SWO NT:=⟨λA=>by simp[NT],λA D E B C=>by simp[NT] at *;omega,λA D E B C=>by simp[NT] at *;omega⟩
noncomputable def ji:TypeInfo:=(prog.info? 94).get (by kernel_rfl)
noncomputable def QO:TypeInfo:=(prog.info? 97).get (by kernel_rfl)
def ze(n:Nat)(D:2<=n):Lib.swapperK n QO 25=9:=by
 have A:QO.hasPointers=false:=AF;have B:QO.bytes=16:=AF;have c:(n==0)=false:=AM;have C:(n==1)=false:=AM;simp[Lib.swapperK,A,B,c,C]
def AGP(C c B size:Nat)(W:AA)(A:Nat->Int)(J:W.cell? ⟨B,0,none⟩=some (.slice C size c))
 (D:∀t,t<size->W.cell? ⟨C,0+t*2,none⟩=some (.int .i64 (A t)))(i j:Nat)(G:i<size)(H:j<size)(_hsz:size<4611686018427387904):
 AI 123 #[i,j,.pointer B] W λe I=>e=.returned (.bool (decide (A i<A j)))/\∃q,I=W.drewN q:=by
 have E:=D i G;have F:=D j H;rw[DP] at E F;go_in;go_wp2;go_quiet (fail)
 go_wp2;go_ret;exact⟨rfl,nq,rfl⟩
def AEC{A:Ay}(K:A.Pairwise (· < ·)){B:Array Int}(H:PermIn 0 A.toArray.size A.toArray B)(I:SortedIn NT 0 A.toArray.size B):B=A.toArray:=by
 obtain⟨e,_,C⟩:=H;have F:B.extract 0 A.toArray.size=B:=gK;have G:A.toArray.extract 0 A.toArray.size=A.toArray:=AH;rw[F,G] at C;apply Array.ext';refine List.Perm.eq_of_pairwise (le:=λL M:Int=>L<=M) (λN O _ _ h P=>by omega) ?_ (K.imp (λh=>by omega)) C;refine List.pairwise_iff_getElem.2 λD E hi hj J=>?_;have:=I D E J_ J (by rw[<-e];simpa using hj);simp only[NT,PQ] at this;rw[getElem!_pos B D KF,getElem!_pos B E P0] at this;simp only[Array.getElem_toList];omega
def pJ{w:AA}{n:Nat}{os:Array Obj}: Below w w (grow (Sort.ahead w n) os):=⟨rfl,rfl,rfl,AH,λB A=>heap_grow_old _ _ (by simpa using A)⟩
def za(A c C:Nat)(B:Ay)(d:2<=B.length)(f:B.length<=30000)(X:B.Pairwise (· < ·))(w:AA)(G:HoldsK Kh 2 w A 0 B.toArray)(H:A<w.heap.size)
 (R:w.cell? ⟨C,0,none⟩=some (.slice A B.length c))(P:C<w.heap.size)(Q:C≠A):
 AI 122 #[.iface 94 (.slice A B.length c),.func (.func 123) #[] #[.pointer C]] w (Bz (.tuple #[]) w):=by
 have I:B.toArray.size=B.length:=AH;have W:LessReadsK prog 123 #[.pointer C] Kh 2 NT A 0 B.toArray.size w:=by
  intro E F D Y Z a T V;have e:sortWorldK Kh 2 w A 0 E D F=putRowK Kh 2 (grow (Sort.ahead w E) F) A 0 D:=by
   unfold sortWorldK;rw[putRowK_grow _ _ (Sort.ahead w E) _ A 0 _ H]
  have S:HoldsK Kh 2 (grow (Sort.ahead w E) F) A 0 B.toArray:=holdsK_grow _ _ _ _ A 0 _ H (holdsK_ahead _ _ _ _ _ _ _ G);refine AGP A c C B.toArray.size _ (λJ=>D[J]!) ?_ (λJ g=>?_) Z a T V U
  .rw[e,cell?_putRowK_other _ _ _ A 0 D _ (by exact Q),cell?_grow _ _ _ (by exact P),I];exact R
  .rw[e];exact((holdsK_putRowK _ _ _ A 0 _ D S Y).cell (i:=J) (c:=0) U U).1
 have:=Any.sort_Slice_cells_sorted tA 94 97 ji QO AF AF AF AF 25 fW Kh 2 J8 AF fW
  (λi v M=>by simp[Kh] at M;rcases M with rfl|rfl<;>rfl) NT zM 123 _
  (enters_of func123 AF rfl) A 0 c B.toArray U U 263 (by rw[ze _ U];kernel_rfl) false
  (λargs O=>run_callFunc_extern func263 AF AF AF (e:=Extern.ReflectliteSwapper.swap false) AF args O) w W G H
 rw[I] at this;refine Calls.mono this ?_;rintro e w' ⟨rfl,b,N,F,K,L,rfl⟩;rw[<-I] at K L;have e:=AEC X K L;subst e;rw[show putRowK Kh 2 (Sort.ahead w N) A 0 B.toArray=Sort.ahead w N from putRowK_self _ _ _ _ _ _ (holdsK_ahead _ _ _ _ _ _ _ G)];exact⟨rfl,pJ⟩
def zP(p:BH)(n c A:Nat)(w:AA)(h:n<=1):
 AI 122 #[.iface 94 (.slice p n c),.func (.func 123) #[] #[.pointer A]] w (Bz (.tuple #[]) w):=by
 have k:=λn B D C=>Any.sort_Slice_tiny tA 94 97 ji QO AF AF AF AF 25 fW p n c D B C (.func 123) #[] #[.pointer A] w
 rcases Nat.le_one_iff_eq_zero_or_eq_one.1 h with rfl|rfl
 .refine Calls.mono (k 0 255 U AF) ?_;rintro e w' ⟨rfl,E,rfl⟩;exact⟨rfl,pJ (n:=0)⟩
 .refine Calls.mono (k 1 256 U AF) ?_;rintro e w' ⟨rfl,E,rfl⟩;exact⟨rfl,pJ (n:=0)⟩
end
