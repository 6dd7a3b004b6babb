/- A part of a proof; the claim's last text says of what. -/
import Derived.Test.YtlakkaamfadipaaGreatDoorM34
import Derived.Test.YtlakkaamfadipaaGreatDoorM36
import Derived.Test.YtlakkaamfadipaaGreatDoorM39
import Derived.Test.YtlakkaamfadipaaGreatDoorM40
import Derived.Test.YtlakkaamfadipaaGreatDoorM42
set_option linter.all false
set_option maxHeartbeats 4000000
open Option renaming some->N,none->Y
open Bool renaming true->A,false->Z
open Go.Proofs.Tryz renaming prog->θ
open List renaming length->F

set_option maxRecDepth 4000
set_option maxHeartbeats 1000000
namespace Go.Proofs.Tryz
open Go Go.Pm Go.Bt
variable(J:ag)(L:List LE)(T:List (GK×(Nat×Nat)))(g:Nat)(l:List fe)(U:List (TK×(Nat×Nat)))(x:fe)(H:List En){P:List LE}{X:List fe}{n:Nat}{E:Nat×Nat×Nat}{o:Ob}{S K:ag}{G:fe}
def jZ(E:Nat×Nat×Nat)(J:ag)(L:List LE)(a:List (GK×(Nat×Nat)))(b:List (TK×(Nat×Nat)))(next:Int)(g:Nat)(M:List fe)(T:ag):ag :=pX E J L a b (J4 (F J) (.own (F J+5) g) next) (iN g M::T)
def Yx:Ti θ 108 11 176:=nQ (by kernel_rfl)
def ER:PC θ 26 [] J (λr a=>r=.ptr (F J+4) 0/\a=jZ ix0 J [] [] [] 0 0 [] []):=by refine a6 func26 c26 λc b=>ay ?_;simp only[p26,SS,seval];simp only[VV,seval];refine aA (Pw _) rfl ?_;simp only[VV,seval];refine fv (.inr rfl) (by simp only[RS,seval];rfl) (Wk.Cm (id:=F J+4) (j:=1) (cs:=[.ptr (F J+3) 0,.nil,.I 0]) (T:=105) Yx (by simp) rfl) rfl ⟨rfl,?_⟩;simp[jZ,pX,J4,iN,vI,emap]
def Jx(e:En)(h1:F e.ao2<2^40)(a:F e.ao7<2^40)(J:ag):bO θ 69 [.agg e.aoZ] J (.agg e.aoZ):=by refine a6 func69 c69 λb c=>ay ?_;simp only[p69,SS,seval];simp only[En.aoZ,VV,seval];refine aA (uV e.ao2 h1 _) rfl ?_;simp only[VV,seval];refine aA (uV e.ao7 a _) rfl ?_;simp only[V.pure,VV,seval];exact bl b (.inr rfl) (by simp only[RS,seval];rfl) (by simp[LW]) ⟨rfl,rfl⟩
def GQ(next:Int)(g:Nat)(M:List fe)(a:ag)(h:mM M)(e:F M<2^30)(k:aJ)(X:ag): PC θ 68 [.ptr (F J+4) 0,.s k] (jZ E J L T U next g M a++X) (λr d=>r=.gy [.I (gP M k),.b (decide (k∈M.map fe.key))]/\d=jZ E J L T U next g M a++X):=by
 refine a6 func68 c68 λj i=>ay ?_;simp only[p68,SS,seval];have c:(jZ E J L T U next g M a++X)[F J+4]?=N (J4 (F J) (.own (F J+5) g) next):=by simp[jZ,pX]
 have f:(jZ E J L T U next g M a++X)[F J+5]?=N (iN g M):=by simp[jZ,pX]
 generalize jZ E J L T U next g M a++X=S at *;simp only[J4]at c;simp only[c,VV,seval];refine aA (aaO M h k (F J+5) g e S f) rfl ?_;simp only[VV,seval];exact fv (.inr rfl) rfl (Wk.refl _ _) rfl ⟨rfl,rfl⟩
def Lf(id g:Nat)(c:F l<2^30)(J:ag)(h1:J[id]?=N (iN g l)): PC θ 71 [.own id g,.I (F l),.sl 11 [x.aoZ]] J (λr a=>r=.own id (g+1)/\a=J.set id (iN (g+1) (l++[x]))):=by refine a6 func71 c71 λd b=>ay ?_;simp only[iN]at h1;simp only[p71,SS,seval];simp only[h1,ae,VV,Int.reduceBEq,Int.reduceBNe,Nat.reduceAdd,Nat.reduceSub,Nat.reduceLeDiff,Nat.reduceEqDiff,Int.reduceToNat,reduceIte,reduceCtorEq];refine⟨⟨by omega,by omega⟩,λh=>by simp at h,λ_=>⟨⟨by omega,by unfold maxLen;omega⟩,?_⟩⟩;exact fv (.inr rfl) rfl (Wk.refl _ _) rfl ⟨rfl,by simp[iN]⟩
open Go.RowKit
def GC:(prog.info? 108).map (·.size)=N 11:=by kernel_rfl
def yq(a:Array Value)(n i:Nat)(b:List Value):Array Value :=((a.toList.take (i*11)++b++(a.toList.take (n*11)).drop (i*11))++a.toList.drop ((n+1)*11)).toArray
set_option maxRecDepth 100000 in
def DB(n c i f d o:Nat)(a:Array Value)(b:List Value)(w:aT)(hi:i<n)(wO:n+1<=c)(ac:c<=9223372036854775807)(m:f≠g) (r:w.heap[g]?=N (.cells a 108 (0,0))) (p:a.size=c*11) (R:F b=11) (wI:∀j v,b[j]?=N v->w.cell? ⟨f,d+j,Y⟩=N v) (D:∀v∈a.toList.take (n*11),v.oneCell'=A) (s:∀v∈b,v.oneCell'=A) (O Q:TypeId) (J K:Nat) (B:w.shape? f=N (O,J)) (Zv:w.shape? g=N (Q,K)) (z:K≠0) (V:w.frozen? ⟨f,d,Y⟩=Z) (I:w.frozen? ⟨f,J,Y⟩=Z) : Calls θ 71 #[.slice (N ⟨g,0,Y⟩) n c,.int .i64 i,.slice (N ⟨f,d,Y⟩) 1 o] w λe T =>e=.returned (.slice (N ⟨g,0,Y⟩) (n+1) c)/\T=w.drew.setRow g (yq a n i b):=by
 have t:∀E C,(callFunc 136 #[.slice (N ⟨f,d,Y⟩) 1 o,.slice (N ⟨g,(i+1)*11,Y⟩) E C]).run θ w=.ok (.value (.bool Z)) w:=λE C=>by
  rw[run_callFunc_extern func136 (by kernel_rfl) (by kernel_rfl) (by kernel_rfl) (e:=Extern.SlicesOverlaps.overlaps #[103,103] #[4]) (by kernel_rfl),
   Lib.run_overlaps_apart w 103 4 108 underlying103 11 (λw=>Tryz.sizeOf108 w) ⟨f,d,Y⟩ ⟨g,(i+1)*11,Y⟩ 1 o E C m O Q J K B Zv z V I];rfl
 have Nh:IntKind.i64.wrap ((i:Int)+1)=(i:Int)+1:=by rw[IntKind.wrap_i64];omega
 have sB:IntKind.i64.wrap ((n:Int)+1)=(n:Int)+1:=by rw[IntKind.wrap_i64];omega
 have Py:¬((i:Int)=(n:Int)):=by omega
 have yx:(0:Int)<=(i:Int)+1:=by omega
 have uo:i<=n:=by omega
 have Wa:((i:Int)+1).toNat=i+1:=by omega
 have am:((n:Int)+1).toNat=n+1:=by omega
 have ky:¬(c=i+1):=by omega
 have af:(i:Int)<=(n:Int)+1:=by omega
 have ad:¬(c=i):=by omega
 have P:=underlying103;have q:F ((a.toList.take (n*11)).drop (i*11))=(n - i)*11:=by rw[bY,bB,aW,p,Nat.sub_mul];have:n*11<=c*11:=bL _ (by omega);omega
 generalize y:(a.toList.take (n*11)).drop (i*11)=cs at q;have W:∀j v,cs[j]?=N v->(w.drew).cell? ((⟨g,i*11,Y⟩:Addr).add j)=N v:=by
  intro j v l;rw[<- y,dV,gd]at l;split at l;.rw[Addr.add_lit];simp only[World.cell?,show w.drew.heap[g]?=N (.cells a 108 (0,0))from r];simpa using l
  cases l
 have mixed:prog.follows Departure.mixedOrders=A:=by kernel_rfl
 have ZE:Nat.min (n+1 - i) (n - i)=n - i:=Nat.min_eq_right (by omega);have u:∀k h H,(Builtin.copy_ #[103,103] k #[.slice (N ⟨g,(i+1)*11,Y⟩) (n - i) h,.slice (N ⟨g,i*11,Y⟩) (n+1 - i) H]).run θ w.drew=.ok (goInt (Nat.min (n+1 - i) (n - i):Nat)) (w.drew.setRow g (a.toList.take ((i+1)*11)++cs++a.toList.drop ((i+1)*11+F cs)).toArray):=λk h H =>
  tU w.drew _ _ k 108 g ((i+1)*11) _ h ⟨g,i*11,Y⟩ _ H a 108 cs 11 P GC r (by rw[q,ZE]) W (by rw[q,p];omega)
   (λv hv=>D v (eU (y▸hv)));generalize M:(a.toList.take ((i+1)*11)++(cs++a.toList.drop ((i+1)*11+(n - i)*11))).toArray=cur1;have DD:cur1.size=c*11:=by rw[<- M];simp only[eS,ai,bB,bY,aW,q,p];omega
 have U:(w.drew.setRow g cur1).heap[g]?=N (.cells cur1 108 (0,0)):=setRow_heap w.drew g a cur1 108 (0,0) r;have X:Nat.min 1 (n+1 - i)=1:=jA (by omega);have x:∀k h,(Builtin.copy_ #[103,103] k #[.slice (N ⟨g,i*11,Y⟩) (n+1 - i) h,.slice (N ⟨f,d,Y⟩) 1 o]).run θ (w.drew.setRow g cur1)=.ok (goInt (Nat.min 1 (n+1 - i):Nat)) ((w.drew.setRow g cur1).setRow g (cur1.toList.take (i*11)++b++cur1.toList.drop (i*11+F b)).toArray):=λk h =>
  tU _ _ _ k 108 g (i*11) _ h ⟨f,d,Y⟩ _ o cur1 108 b 11 P GC U (by rw[R,X]) (λj v l=>by rw[Addr.add_lit];have L:=wI j v l;simp only[World.cell?,World.setRow,cz,au (Qm m)]at L |-;exact L) (by rw[R,DD];omega) s;go_enter func71,Tryz.ntmps71;go_wp2_with (simp only[t]);go_region_law_o (refine step_copy_runI rfl _ _ 103 103 rfl _ _ (by simp[Act.eval,Act.put]) (by simp[Act.eval,Act.put]) (u _ _ _) ?_);go_wp2_with (at_builtin;refine wpList_copy_runI _ rfl _ _ 103 103 rfl _ _ rfl rfl (x _ _) ?_);go_ret;refine⟨rfl,?_⟩;rw[setRow_setRow];have G:F ((a.toList.take ((i+1)*11)))=(i+1)*11:=by rw[bB,aW,p];omega
 have S:cur1.toList=a.toList.take ((i+1)*11)++(cs++a.toList.drop ((i+1)*11+(n - i)*11)):=by rw[<- M]
 have e2:cur1.toList.take (i*11)=a.toList.take (i*11):=by rw[S,dO (by rw[G];omega),vC,jA (by omega)]
 have e3:cur1.toList.drop (i*11+11)=cs++a.toList.drop ((n+1)*11):=by rw[S,List.drop_append_of_le_length (by rw[G];omega),CU (by rw[G];omega),bg];congr 2;omega
 rw[e2,e3,yq,y];simp only[aS]
set_option maxRecDepth 100000 in
def GA(g n i p c vc:Nat)(a:Array Value)(b:List Value)(w:aT)(hi:i<n)(aE:n<=2^30) (V:w.heap[g]?=N (.cells a 108 (0,0))) (u:a.size=n*11) (D:F b=11) (wI:∀j v,b[j]?=N v->w.cell? ⟨p,c+j,Y⟩=N v) (P:∀v∈a.toList,v.oneCell'=A) (W:∀v∈b,v.oneCell'=A) (U:p<w.heap.size) : Calls θ 71 #[.slice (N ⟨g,0,Y⟩) n n,.int .i64 i,.slice (N ⟨p,c,Y⟩) 1 vc] w λe w' =>∃(G:Nat) (row:Array Value),e=.returned (.slice (N ⟨w.heap.size,0,Y⟩) (n+1) G)/\n+1<=G/\G<=maxLen/\row.size=G*11 /\row.toList.take ((n+1)*11)=a.toList.take (i*11)++b++a.toList.drop (i*11)/\w'.heap[w.heap.size]?=N (.cells row 108 (0,0))/\w.grownBy w' Y:=by
 obtain⟨i0,z,Wi,S,Ul,C,nP⟩:=GB (T:=108) (n:=11) (by':=176) (by kernel_rfl);have X:=underlying103;have hI:=underlying3;have mixed:prog.follows Departure.mixedOrders=A:=by kernel_rfl
 have L:g<w.heap.size:=(bh.1 V).1;have m:(Builtin.firstCells i0.size i (.slice (N ⟨g,0,Y⟩) i n)).run θ w.drew=.ok (a.toList.take (i*11)).toArray w.drew:=by
  rw[Ul];exact run_firstCells_some w.drew 11 i ⟨g,0,Y⟩ i n (a.toList.take (i*11)) (by rw[bB,aW,u];omega) (λj v l=>by
   rw[Addr.add_lit];rw[gd]at l;split at l;.simp only[World.cell?,show w.drew.heap[g]?=N (.cells a 108 (0,0))from V];simpa using l
   cases l)
 have s:i+(n+1 - i)=n+1:=by omega
 have Nn:(n:Int)+1 - (i:Int)=((n+1 - i:Nat):Int):=by omega
 have q:∀d,(Builtin.append_ #[103,3] d #[.slice (N ⟨g,0,Y⟩) i n,.int .i64 ((n:Int)+1 - (i:Int))]).run θ w =
   .ok (.slice (N ⟨w.heap.size,0,Y⟩) (n+1) (grownCap w (n+1) n 108)) (w.drew.alloc (.cells ((a.toList.take (i*11)).toArray++Builtin.zeroCells z.cells (n+1 - i)++Builtin.zeroCells z.cells (grownCap w (n+1) n 108 - (n+1))) 108)):=λd=>by have h:=Lib.run_append_grow_zeros w 103 3 d 108 i0 z .i64 .i64 X hI Wi S (N ⟨g,0,Y⟩) i n (a.toList.take (i*11)) m (n+1 - i) (by omega) (by omega) (by omega) (by omega) (by rw[C];omega) (by rw[C,s];exact growslice_fits (by omega) (by omega));rw[s]at h;rw[Nn];exact h
 have E:n+1<=grownCap w (n+1) n 108:=grownCap_ge w _ _ _;have r:grownCap w (n+1) n 108<=maxLen:=grownCap_le_maxLen w _ _ _ (by unfold maxLen;omega);generalize hG:grownCap w (n+1) n 108=G at q E r;have Qw:∀k,(Builtin.zeroCells z.cells k).size=k*11:=λk=>by simp[Builtin.zeroCells,nP]
 have f:((a.toList.take (i*11)).toArray++Builtin.zeroCells z.cells (n+1 - i)++Builtin.zeroCells z.cells (G - (n+1))).size=G*11:=by rw[mF,mF,Qw,Qw,eS,bB,aW,u];omega
 have B:((a.toList.take (i*11)).toArray++Builtin.zeroCells z.cells (n+1 - i)++Builtin.zeroCells z.cells (G - (n+1))).toList.take (i*11)=a.toList.take (i*11):=by
  have y:F (a.toList.take (i*11))=i*11:=by rw[bB,aW,u];omega
  simp only[JX,aS];rw[dO (by rw[y];exact ax _),cn (by rw[y];exact ax _)]
 generalize ac:(a.toList.take (i*11)).toArray++Builtin.zeroCells z.cells (n+1 - i)++Builtin.zeroCells z.cells (G - (n+1))=ROW at q f B;have Py:¬((i:Int)=(n:Int)):=by omega
 have ap:(n:Int)<(n:Int)+1:=by omega
 have Nh:IntKind.i64.wrap ((i:Int)+1)=(i:Int)+1:=by rw[IntKind.wrap_i64];omega
 have sB:IntKind.i64.wrap ((n:Int)+1)=(n:Int)+1:=by rw[IntKind.wrap_i64];omega
 have af:IntKind.i64.wrap ((n:Int)+1 - (i:Int))=(n:Int)+1 - (i:Int):=by rw[IntKind.wrap_i64];omega
 have yx:(0:Int)<=(i:Int)+1:=by omega
 have uo:i<=n:=by omega
 have Wa:((i:Int)+1).toNat=i+1:=by omega
 have a3:(i:Int)<=(n:Int):=by omega
 have a0:(i:Int)<=(n:Int)+1:=by omega
 have am:G<=9223372036854775807:=by unfold maxLen at r;omega
 have av:¬(G=i):=by omega
 have aV:¬(G=i+1):=by omega
 have a2:¬(n=i):=by omega
 have M:¬(w.heap.size=g):=by omega
 have a1:¬(w.heap.size=p):=by omega
 have t:(w.alloc (.cells ROW 108)).drew.heap[w.heap.size]?=N (.cells ROW 108 (0,0)):=heap_alloc_new w _;have SJ:Nat.min 1 (n+1 - i)=1:=jA (by omega);have O:Nat.min (n - i) (n - i)=n - i:=jA (ax _);have I:∀d o,(Builtin.copy_ #[103,103] d #[.slice (N ⟨w.heap.size,i*11,Y⟩) (n+1 - i) o,.slice (N ⟨p,c,Y⟩) 1 vc]).run θ (w.alloc (.cells ROW 108)).drew =
   .ok (goInt (Nat.min 1 (n+1 - i):Nat)) ((w.alloc (.cells ROW 108)).drew.setRow w.heap.size (ROW.toList.take (i*11)++b++ROW.toList.drop (i*11+F b)).toArray):=λd o =>
  tU _ _ _ d 108 w.heap.size (i*11) _ o ⟨p,c,Y⟩ _ vc ROW 108 b 11 X GC t (by rw[D,SJ]) (λj v l=>by rw[Addr.add_lit];exact(World.cell?_alloc_past (w:=w) _ p (c+j) U).trans (wI j v l)) (by rw[D,f];omega) W;have ad:F (ROW.toList.take (i*11)++b++ROW.toList.drop (i*11+F b))=G*11:=by simp only[ai,bB,bY,aW,f,D];omega
 generalize x:(ROW.toList.take (i*11)++b++ROW.toList.drop (i*11+F b)).toArray=RA at I;have H:RA.size=G*11:=by rw[<- x,eS,ad]
 have J:((w.alloc (.cells ROW 108)).drew.setRow w.heap.size RA).drew.heap[w.heap.size]?=N (.cells RA 108 (0,0)):=setRow_heap _ w.heap.size ROW RA 108 (0,0) t;have K:F (a.toList.drop (i*11))=(n - i)*11:=by rw[bY,aW,u,Nat.sub_mul]
 have R:∀d o sc,(Builtin.copy_ #[103,103] d #[.slice (N ⟨w.heap.size,(i+1)*11,Y⟩) (n - i) o,.slice (N ⟨g,i*11,Y⟩) (n - i) sc]).run θ ((w.alloc (.cells ROW 108)).drew.setRow w.heap.size RA).drew = .ok (goInt (Nat.min (n - i) (n - i):Nat)) (((w.alloc (.cells ROW 108)).drew.setRow w.heap.size RA).drew.setRow w.heap.size (RA.toList.take ((i+1)*11)++a.toList.drop (i*11)++RA.toList.drop ((i+1)*11+F (a.toList.drop (i*11)))).toArray):=λd o sc =>tU _ _ _ d 108 w.heap.size ((i+1)*11) _ o ⟨g,i*11,Y⟩ _ sc RA 108 (a.toList.drop (i*11)) 11 X GC J (by rw[K,O]) (λj v l=>by
   rw[Addr.add_lit];rw[dV]at l;have h0:(w.alloc (.cells ROW 108)).heap[g]?=N (.cells a 108 (0,0)):=by rw[Below.heap_alloc w _ g L];exact V
   have h1:((w.alloc (.cells ROW 108)).drew.setRow w.heap.size RA).drew.heap[g]?=N (.cells a 108 (0,0)):=by simp only[World.setRow,World.drew,cz,au M];exact h0
   simp only[World.cell?,h1];simpa using l) (by rw[K,H];omega) (λv hv=>P v (eU hv));clear Nn s m ac hG f;go_enter func71,Tryz.ntmps71;go_wp2_with (first
  |(at_builtin;refine Lib.wpList_append_run _ rfl _ _ _ _ rfl _ _ rfl rfl _ _ (q _) ?_)
  |(at_builtin;refine wpList_copy_runI _ rfl _ _ 103 103 rfl _ _ rfl rfl (I _ _) ?_));go_region_law_o (refine step_copy_runI rfl _ _ 103 103 rfl _ _ (by simp[Act.eval,Act.put]) (by simp[Act.eval,Act.put]) (R _ _ _) ?_);go_wp2;go_ret;have dC:F (a.toList.take (i*11))=i*11:=by rw[bB,aW,u];omega
 have e1:RA.toList=a.toList.take (i*11)++(b++ROW.toList.drop (i*11+F b)):=by rw[<- x,<- B,aS]
 have e2:RA.toList.take ((i+1)*11)=a.toList.take (i*11)++b:=by
  have y:F (a.toList.take (i*11)++b)=(i+1)*11:=by rw[ai,dC,D];omega
  rw[e1,<- List.append_assoc,dO (by rw[y];exact ax _),cn (by rw[y];exact ax _)]
 have Q:F (RA.toList.take ((i+1)*11)++a.toList.drop (i*11))=(n+1)*11:=by rw[e2,ai,ai,dC,D,K];omega
 refine⟨G,_,rfl,E,r,?_,?_,setRow_heap _ _ RA _ 108 (0,0) J,?_⟩;.rw[eS,<- List.append_assoc,ai,Q,bY,aW,H];omega
 .show List.take ((n+1)*11) (RA.toList.take ((i+1)*11)++(a.toList.drop (i*11)++RA.toList.drop ((i+1)*11+(n - i)*11)))=_;rw[<- List.append_assoc,dO (by rw[Q];exact ax _),cn (by rw[Q];exact ax _),e2]
 refine⟨rfl,rfl,rfl,?_,λk hk _=>?_⟩;.simp only[World.setRow,World.drew,Array.size_modify,World.alloc,Array.size_push];omega
 simp only[World.setRow,World.drew,cz,au (show ¬w.heap.size=k by omega)];exact Below.heap_alloc w _ k hk
def Oo{w:aT}{f:Mem}{c:cD}{r:ao}{a b:List Value}(h:lp w S f c n a)(C:F a=F c*n)(D:lp w S f [r] n b)(H:F b=n)(m:Nat)(t:m<=F c): lp w S f (c.take m++r::c.drop m) n (a.take (m*n)++b++a.drop (m*n)):=by
 have v:F (a.take (m*n))=m*n:=by rw[bB,C];exact jA (bL _ t)
 have p:F (c.take m)=m:=by rw[bB];exact jA t
 have B:lp w S f (c.take m) n (a.take (m*n)):=by
  refine⟨λq d=>h.1 q (dv d),λi j x e=>?_⟩;have s:i<m:=by obtain⟨q,d,_⟩:=iD e;have:=(ab.1 d).1;omega
  have g:gp c i j=N x:=by simp only[gp,gd,aK s]at e |-;exact e
  obtain⟨k,u,o,l⟩:=h.2 i j x g;have I:j<n:=by obtain⟨q,d,E⟩:=iD g;have:=h.1 q (bc d);have:=(ab.1 E).1;omega
  refine⟨k,u,?_,l⟩;have z:i*n+j<m*n:=by have:(i+1)*n<=m*n:=bL _ s;rw[cN,gN]at this;omega
  rw[gd,aK z];exact o
 have y:lp w S f (c.drop m) n (a.drop (m*n)):=by
  refine⟨λq d=>h.1 q (eU d),λi j x e=>?_⟩;have g:gp c (m+i) j=N x:=by simp only[gp,dV]at e |-;exact e
  obtain⟨k,u,o,l⟩:=h.2 _ j x g;refine⟨k,u,?_,l⟩;rw[dV,<- o,cN,gB]
 have G:=(B.append D (by rw[v,p])).append y (by rw[ai,ai,v,H,p,cN];simp);simpa using G
def IX(m id f g g2:Nat)(af:Bool)(hm:m<F l)(hl:F l<2^30)(J:ag)(S:id≠f)(h1:J[id]?=N (.row 108 11 176 g Z (l.map fe.aoZ)))(T:J[f]?=N (.row 108 11 176 g2 af [x.aoZ])): PC θ 71 [.own id g,.I m,.own f g2] J (λr J'=>r=.own id (g+1)/\J'=J.set id (.row 108 11 176 (g+1) Z ((l.take m++x::l.drop m).map fe.aoZ))):=by
 refine PC.ady h1 λB w0 w μ vs L n=>?_;have M:=n.2 0 _ rfl;have a1:=(n.2 1 _ rfl).fE;have P:=n.2 2 _ rfl;have M:=M.kE h1;have P:=P.kE T;obtain⟨_,c,Q,cH⟩:=L.obj id _ h1;obtain⟨_,a,X,EJ⟩:=L.obj f _ T;have e:vs=#[μ id,.int .i64 m,μ f]:=by obtain⟨q⟩:=vs;match q,n.1 with|[u,v,y],_=>simp at M a1 P;rw[M,a1,P]
 rw[e];have o1:=lp.one L cH Q.1;have o2:=lp.one L EJ X.1;rcases Q.2 with⟨_,hn⟩|⟨p,h,d,ma,hB,E,I5,BY,t,D⟩;.rw[ae]at hn;omega
 rcases X.2 with⟨_,hn⟩|⟨H,o,z,s,aE,C,av,am,ap,V⟩;.simp at hn
 have W:F (l.map fe.aoZ)=F l:=ae ..;rw[W]at ma I5 D Q;have ac:H≠p:=λe=>S (L.sep id f _ _ p h1 T (by simp) (by simp) (by rw[ma];rfl) (by rw[s,e];rfl));have R:F a=11:=by simpa using X.1
 have Qx:F c=F l*11:=by rw[Q.1]
 have wI:∀j v,a[j]?=N v->w.cell? ⟨H,0+j,Y⟩=N v:=by
  intro j v O;rw[<- V,gd]at O;split at O;.simp only[World.cell?,C,bq];simpa using O
  cases O
 have ad:H<w.heap.size:=(bh.1 C).1;have i:F ((l.take m++x::l.drop m).map fe.aoZ)=F l+1:=by simp;omega
 have GL:lp w J μ ((l.take m++x::l.drop m).map fe.aoZ) 11 (c.take (m*11)++a++c.drop (m*11)):=by have:=Oo (r:=x.aoZ) cH (by rw[W];exact Qx) EJ R m (by rw[W];omega);simpa[me,sn]using this
 have K:F (c.take (m*11)++a++c.drop (m*11))=(F l+1)*11:=by simp only[ai,bB,bY,Qx,R];omega
 rw[ma,s];by_cases wO:F l+1<=h
 .refine(DB p (F l) h m H 0 o d a w hm wO (by unfold maxLen at BY;omega) ac E t R wI (λv n=>o1 v (D▸n)) o2 108 108 z.size d.size (by simp[World.shape?,C]) (by simp[World.shape?,E]) (by rw[t];omega) (by simp[World.frozen?,C]) (by simp[World.frozen?,C])).mono ?_;rintro e w' ⟨rfl,rfl⟩;refine⟨_,_,rfl,?_,λb U=>.inl U,?_,GL⟩
  .refine⟨rfl,rfl,rfl,?_,λk hk S=>?_⟩;.simp only[World.setRow,World.drew,Array.size_modify];exact ax _
   have pM:¬p=k:=λe=>S (by rw[e];rfl);simp only[World.setRow,World.drew,cz,au pM]
  rw[i];have e1:d.toList.take (m*11)=c.take (m*11):=by rw[<- D,vC,jA (by omega)]
  have e2:(yq d (F l) m a).toList=(c.take (m*11)++a++c.drop (m*11))++d.toList.drop ((F l+1)*11):=by rw[yq,D,e1]
  refine⟨K,.inr ⟨p,h,_,rfl,hB,setRow_heap w.drew p d _ 108 (0,0) E,wO,BY,?_,?_⟩⟩;.have e3:(yq d (F l) m a).size=F (yq d (F l) m a).toList:=aW.symm;rw[e3,e2,ai,K,bY,(show F d.toList=h*11 from by rw[aW,t])];omega
  rw[e2,dO (by rw[K];exact ax _),cn (by rw[K];exact ax _)]
 have mj:h=F l:=by omega
 subst mj;have jC:d.toList=c:=by rw[<- D,cn (by rw[aW,t];exact ax _)]
 refine(GA p (F l) m H 0 o d a w hm (by omega) E t R wI (λv n=>o1 v (jC▸n)) o2 ad).mono ?_;rintro e w' ⟨G,row,rfl,q1,q2,q3,q4,q5,q6⟩;refine⟨_,_,rfl,?_,λb U=>.inr ?_,?_,GL⟩;.obtain⟨p1,p2,p3,p4,p5⟩:=q6;exact⟨p1,p2,p3,p4,λk hk S=>p5 k hk (by simp)⟩
 .simp only[js,aa]at U;omega
 rw[i];refine⟨K,.inr ⟨w.heap.size,G,row,rfl,by have:=(bh.1 E).1;omega,q5,q1,q2,q3,?_⟩⟩;rw[q4,jC]

set_option maxRecDepth 8000
set_option maxHeartbeats 4000000
def Pu(m id a g:Nat)(j:m<=F l)(i:F l<2^30)(J:ag)(d:id≠a)(h1:J[id]?=N (iN g l))(f:J[a]?=N (.row 108 11 176 0 Z [x.aoZ])): PC θ 71 [.own id g,.I m,.own a 0] J (λr c=>r=.own id (g+1)/\∃k,c=(J.set a (.row 108 11 176 0 k [x.aoZ])).set id (iN (g+1) (l.take m++x::l.drop m))):=by
 rcases Nat.lt_or_eq_of_le j with h|h;.refine(IX l x m id a g 0 Z h i J d h1 f).mono λv c b=>?_;exact⟨b.1,Z,by rw[sN f];exact b.2⟩
 subst h;refine PC.wk (Wk.fz a f) ?_;have e:[V.own id g,.I (F l),.own a 0].map (fz a 0 11 [x.aoZ])=[V.own id g,.I (F l),.sl 11 [x.aoZ]]:=by simp[Pm.fz,sk,d]
 rw[e];refine(Lf l x id g i _ (by rw[aN d.symm];exact h1)).mono λv c b=>?_;exact⟨b.1,A,by rw[b.2];simp⟩
def Et{c:Type}[DecidableEq c]{a:Nat}{e:Ob}{G:List (c×(Nat×Nat))}{f:c->df}(h:Bt.iI n a (o::S) G f)(d:∀g l,o≠je n g l):Bt.iI n a (e::(S++K)) G f :=⟨h.nodup,λk r g i=>by obtain⟨j,m,b⟩:=h.row k r g i;cases j with|zero=>exact absurd (by simpa using b) (d g (f k))|succ j =>refine⟨j+1,m,?_⟩;simp only[bS]at b |-;rw[aj (ab.1 b).1];exact b,h.zU,h.inj⟩
def DV.swap{n:Nat}{g:Nat}{M:List fe}{o':Ob}{T X:ag}{L:List LE}{c:List (GK×(Nat×Nat))}{d:List (TK×(Nat×Nat))}(h:DV n (iN g M::T) L c d):DV n (o'::(T++X)) L c d :=⟨h.keys,h.apa,λe i=>by
  obtain⟨j,k,a⟩:=h.cls e i;cases j with|zero=>simp[iN]at a|succ j =>refine⟨j+1,k,?_⟩;simp only[bS]at a |-;rw[aj (ab.1 a).1];exact a,
  Et h.p2 (λg f b=>by simp[iN,je]at b),Et h.p3 (λg f b=>by simp[iN,je]at b),h.dis⟩
def AB(next:Int)(g:Nat)(M:List fe)(a X:ag):jZ E J L T U next g M a++X=pX E J L T U (J4 (F J) (.own (F J+5) g) next) (iN g M::(a++X)):=by simp[jZ,pX]
def OE(next:Int)(hn:0<=next/\next<2^60)(g:Nat)(M:List fe)(b:ag)(hI:DV (F J) (iN g M::b) L T U)(C:bZ next L=none)(H:F L<1024)(hM:F M<1024)(hs:mM M) (e:En) (p:e.apa) (h0:cJ e=0) (ku:bf e ∉ M.map fe.key) (Ui:F (cR e.ao2)<2^27) : PC θ 27 [.ptr (F J+4) 0,.agg e.aoZ] (jZ E J L T U next g M b) (λr G=>r=.I 0/\∃l m h f,G=jZ E J (L++[(next,(cR e.ao2,m))]) h f (next+1) (g+1) (M.take (gP M (bf e))++⟨next,bf e,e,cR e.ao2⟩::M.drop (gP M (bf e))) l /\DV (F J) (iN (g+1) (M.take (gP M (bf e))++⟨next,bf e,e,cR e.ao2⟩::M.drop (gP M (bf e)))::l) (L++[(next,(cR e.ao2,m))]) h f):=by
 refine a6 func27 c27 λbn dN=>ay ?_;have e1:=p.ao2;have e2:=p.nY;have e3:=p.ao7;simp only[p27,SS,seval];simp only[En.aoZ,↓IT,VV,seval];refine aA (mh e p _) (by simp only[En.aoZ,VV,seval]) ?_;simp only[h0,↓IT,VV,seval];refine aA (yd e p _) (by simp only[En.aoZ,VV,seval]) ?_;simp only[↓IT,VV,seval];refine aA (GQ J L T U next g M b hs (by omega) (bf e) _) rfl ?_;have S:decide (bf e∈M.map fe.key)=Z:=oC ku;have Q:decide ((1024:Int)<=(F M:Int))=Z:=by simp;omega
 have K:IntKind.i64.wrap (next+1)=next+1:=IntWalk.i64_in _ (by omega);obtain⟨a,d⟩:∃a,∀c g M,F (jZ E J L T U c g M b)=a:=⟨F J+(F b+6),λc g M=>by simp[jZ,pX]⟩;have w:∀c g M X,(jZ E J L T U c g M b++X)[a]?=X[0]?:=λc g M X=>by rw[<- d c g M,aD (ax _)];simp
 have t:∀c g M X j,(jZ E J L T U c g M b++X)[a+j]?=X[j]?:=λc g M X j=>by rw[<- d c g M,aD (by omega)];simp
 have x:∀c g M X j o,(jZ E J L T U c g M b++X).set (a+j) o=jZ E J L T U c g M b++X.set j o:=λc g M X j o=>by rw[<- d c g M,b8 _ _ (by omega)];simp
 have y:∀c g M X o,(jZ E J L T U c g M b++X).set a o=jZ E J L T U c g M b++X.set 0 o:=λc g M X o=>by rw[<- d c g M,b8 _ _ (ax _)];simp
 have n:∀c g M X,(jZ E J L T U c g M b++X)[F J+4]?=N (.box 105 [.ptr (F J+3) 0,.own (F J+5) g,.I c]):=λc g M X=>by simp[jZ,pX,J4]
 have u:∀c g M X,(jZ E J L T U c g M b++X)[F J+5]?=N (.row 108 11 176 g Z (M.map fe.aoZ)):=λc g M X=>by simp[jZ,pX,iN]
 have ll:∀c i g M X,(jZ E J L T U c g M b++X).set (F J+4) (.box 105 [.ptr (F J+3) 0,.own (F J+5) g,.I i])=jZ E J L T U i g M b++X:=λc i g M X=>by simp[jZ,pX,J4]
 have R:∀c g v M k X,((jZ E J L T U c g M b++X).set (F J+5) (iN v k)).set (F J+4) (.box 105 [.ptr (F J+3) 0,.own (F J+5) v,.I c])=jZ E J L T U c v k b++X:=λc g v M k X=>by simp[jZ,pX,J4]
 generalize z:M.take (gP M (bf e))++⟨next,bf e,e,cR e.ao2⟩::M.drop (gP M (bf e))=k;simp only[d,w,t,y,x,n,u,S,Q,ae,↓IT,VV,seval];intro X;refine aA (Jx e (by omega) (by omega) _) (by simp only[En.aoZ,VV,seval]) ?_;simp only[En.aoZ,d,w,t,y,x,n,u,↓IT,VV,seval];intro X2;refine aA (qk e.ao2 (by omega) (by omega) _) rfl ?_;simp only[En.aoZ,K,ll,d,w,t,y,x,n,u,↓IT,V.pure,VV,seval];have ac:F J+5<a:=by have:=d 0 0 M;simp only[jZ,pX,ai,ah]at this;omega
 refine cB (Pu M ⟨next,bf e,e,cR e.ao2⟩ (gP M (bf e)) (F J+5) (a+2) g (Gw _ _) (by omega) _ (by omega) (u _ _ _ _) (by rw[t];rfl)) rfl ?_;rintro _ _ ⟨rfl,W,rfl⟩;rw[z];have ky:∀c g M X o,((jZ E J L T U c g M b++X).set (F J+5) o)[F J+4]?=N (.box 105 [.ptr (F J+3) 0,.own (F J+5) g,.I c]):=λc g M X o=>by rw[aN (by omega)];exact n ..
 simp only[En.aoZ,ky,R,d,w,t,y,x,n,↓IT,V.pure,VV,seval];refine⟨?_,?_⟩;.have P:F J+5<F (jZ E J L T U (next+1) g M b++[Ob.box 37 [.sl 3 (e.ao2.map It.aoZ),.sl 3 (e.ao7.map It.aoZ),.s e.b6,.s e.next,.s e.cW,.s e.cx,.I e.ao9,.I e.ape],Ob.box 108 [.I next,.s (bf e),.sl 3 (e.ao2.map It.aoZ),.sl 3 (e.ao7.map It.aoZ),.s e.b6,.s e.next,.s e.cW,.s e.cx,.I e.ao9,.I e.ape,.sl 3 ((cR e.ao2).map It.aoZ)],Ob.row 108 11 176 0 W [fe.aoZ ⟨next,bf e,e,cR e.ao2⟩]]):=(ab.1 (u (next+1) g M _)).1;rw[aw P];simp[iN]
 rw[AB];refine cB (EI _ _ L T U J hI.swap next C H (cR e.ao2) Ui) rfl ?_;rintro r G ⟨rfl,l,m,h,f,rfl,B,O⟩;have D:l[0]?=N (iN (g+1) k):=O.2 0 _ rfl (by simp[iN,still]);obtain⟨q,rfl⟩:∃q,l=iN (g+1) k::q:=by cases l with|nil=>simp at D|cons o q=>simp only[aH,aa]at D;exact⟨q,by rw[D]⟩
 simp only[↓IT,VV,seval];exact fv (.inr rfl) rfl (Wk.refl _ _) rfl ⟨rfl,q,m,h,f,rfl,B⟩

set_option maxRecDepth 8000
set_option maxHeartbeats 4000000
def OD(next:Int)(hn:0<=next/\next<2^60)(g:Nat)(M:List fe)(b:ag)(hI:DV (F J) (iN g M::b) L T U)(ac:bZ next L=none)(hL:F L<=1024)(hM:F M<=1024)(hs:mM M) (e:En) (y:e.apa) (h0:cJ e=0) (k:fe) (G:M[gP M (bf e)]?=N k) (Hh:k.key=bf e) (l0:List It) (m0:Nat) (u:bZ k.id L=N (l0,m0)) (Ui:F (cR e.ao2)<2^27) : PC θ 27 [.ptr (F J+4) 0,.agg e.aoZ] (jZ E J L T U next g M b) (λr S=>r=.I 0/\∃n p m h f,S=jZ n J (lf L k.id++[(next,(cR e.ao2,m))]) h f (next+1) g (M.set (gP M (bf e)) ⟨next,bf e,e,cR e.ao2⟩) p /\DV (F J) (iN g (M.set (gP M (bf e)) ⟨next,bf e,e,cR e.ao2⟩)::p) (lf L k.id++[(next,(cR e.ao2,m))]) h f):=by
 refine a6 func27 c27 λbn dN=>ay ?_;have e1:=y.ao2;have e2:=y.nY;have e3:=y.ao7;simp only[p27,SS,seval];simp only[En.aoZ,↓IT,VV,seval];refine aA (mh e y _) (by simp only[En.aoZ,VV,seval]) ?_;simp only[h0,↓IT,VV,seval];refine aA (yd e y _) (by simp only[En.aoZ,VV,seval]) ?_;simp only[↓IT,VV,seval];refine aA (GQ J L T U next g M b hs (by omega) (bf e) _) rfl ?_;have hd:decide (bf e∈M.map fe.key)=A:=G7 ((tY hs _).2 ⟨k,G,Hh⟩);have hw:IntKind.i64.wrap (next+1)=next+1:=IntWalk.i64_in _ (by omega);obtain⟨a,d⟩:∃a,∀c g M,F (jZ E J L T U c g M b)=a:=⟨F J+(F b+6),λc g M=>by simp[jZ,pX]⟩;have P:∀c g M X,(jZ E J L T U c g M b++X)[a]?=X[0]?:=λc g M X=>by rw[<- d c g M,aD (ax _)];simp
 have Wj:∀c g M X j,(jZ E J L T U c g M b++X)[a+j]?=X[j]?:=λc g M X j=>by rw[<- d c g M,aD (by omega)];simp
 have Uk:∀c g M X j o,(jZ E J L T U c g M b++X).set (a+j) o=jZ E J L T U c g M b++X.set j o:=λc g M X j o=>by rw[<- d c g M,b8 _ _ (by omega)];simp
 have Ul:∀c g M X o,(jZ E J L T U c g M b++X).set a o=jZ E J L T U c g M b++X.set 0 o:=λc g M X o=>by rw[<- d c g M,b8 _ _ (ax _)];simp
 have O:∀c g M X,(jZ E J L T U c g M b++X)[F J+4]?=N (.box 105 [.ptr (F J+3) 0,.own (F J+5) g,.I c]):=λc g M X=>by simp[jZ,pX,J4]
 have hr:∀c g M X,(jZ E J L T U c g M b++X)[F J+5]?=N (.row 108 11 176 g Z (M.map fe.aoZ)):=λc g M X=>by simp[jZ,pX,iN]
 have ll:∀c t g M X,(jZ E J L T U c g M b++X).set (F J+4) (.box 105 [.ptr (F J+3) 0,.own (F J+5) g,.I t])=jZ E J L T U t g M b++X:=λc t g M X=>by simp[jZ,pX,J4]
 have Wc:∀c g D M i X,((jZ E J L T U c g M b++X).set (F J+5) (iN D i)).set (F J+4) (.box 105 [.ptr (F J+3) 0,.own (F J+5) D,.I c])=jZ E J L T U c D i b++X:=λc g D M i X=>by simp[jZ,pX,J4]
 have sC:gP M (bf e)<F M:=(ab.1 G).1;have fG:(M.map fe.aoZ).getD (gP M (bf e)) []=k.aoZ:=by simp[aq,G]
 have Np:(0:Int)<=((gP M (bf e):Nat):Int):=by omega
 have Wn:((gP M (bf e):Nat):Int)<(F M:Int):=by omega
 simp only[d,P,Wj,Ul,Uk,O,hr,hd,ae,↓IT,VV,seval];intro X;refine aA (Jx e (by omega) (by omega) _) (by simp only[En.aoZ,VV,seval]) ?_;simp only[En.aoZ,d,P,Wj,Ul,Uk,O,hr,↓IT,VV,seval];intro X2;refine aA (qk e.ao2 (by omega) (by omega) _) rfl ?_;simp only[En.aoZ,hw,ll,d,P,Wj,Ul,Uk,O,hr,↓IT,V.pure,VV,seval];have Wt:gp (M.map fe.aoZ) (gP M (bf e)) 0=N (.I k.id):=by simp[gp,G,fe.aoZ]
 have z:a=F J+(F b+6):=by have:=d 0 0 M;simp only[jZ,pX,ai,ah]at this;omega
 simp only[fG,Wt,Np,Wn,ae,aG,V.pure,VV,seval];rw[AB];refine cB (Pv _ _ L T U J hI.swap k.id l0 m0 u hL) rfl ?_;rintro _ S ⟨rfl,n,p,h,f,rfl,Q,R⟩;have I2:p[0]?=N (iN g M):=R.2 0 _ rfl (by simp[iN,still]);obtain⟨l,rfl⟩:∃l,p=iN g M::l:=by cases p with|nil=>simp at I2|cons o l=>simp only[aH,aa]at I2;exact⟨l,by rw[I2]⟩
 have PD:=R.2 (F b+1) _ (by simp;rfl) rfl;have Ni:=R.2 (F b+2) _ (by simp;rfl) rfl;simp only[bS]at PD Ni;have B:∀i,pX n J (lf L k.id) h f (J4 (F J) (.own (F J+5) g) (next+1)) (iN g i::l)=jZ n J (lf L k.id) h f (next+1) g i l:=λi=>rfl;rw[B];have af:∀i,(jZ n J (lf L k.id) h f (next+1) g i l)[F J+4]?=N (.box 105 [.ptr (F J+3) 0,.own (F J+5) g,.I (next+1)]):=λi=>by simp[jZ,pX,J4]
 have K:∀i,(jZ n J (lf L k.id) h f (next+1) g i l)[F J+5]?=N (.row 108 11 176 g Z (i.map fe.aoZ)):=λi=>by simp[jZ,pX,iN]
 have Hf:∀i,(jZ n J (lf L k.id) h f (next+1) g i l)[a]?=l[F b]?:=λi=>by unfold jZ pX;rw[z,aD (by omega),(by omega:F J+(F b+6) - F J=F b+6)];simp only[bS]
 have He:∀i,(jZ n J (lf L k.id) h f (next+1) g i l)[a+1]?=l[F b+1]?:=λi=>by unfold jZ pX;rw[z,aD (by omega),(by omega:F J+(F b+6)+1 - F J=F b+1+6)];simp only[bS]
 have PG:(M.map fe.aoZ).set (gP M (bf e)) (fe.aoZ ⟨next,bf e,e,cR e.ao2⟩)=(M.set (gP M (bf e)) ⟨next,bf e,e,cR e.ao2⟩).map fe.aoZ:=by rw[List.map_set]
 have x:∀i s,(jZ n J (lf L k.id) h f (next+1) g i l).set (F J+5) (.row 108 11 176 g Z (s.map fe.aoZ))=jZ n J (lf L k.id) h f (next+1) g s l:=λi s=>by simp[jZ,pX,iN]
 have W:(k.aoZ).drop 11=[]:=rfl;simp only[fe.aoZ]at PG;simp only[af,K,Hf,He,PD,Ni,fG,W,PG,x,Np,Wn,ae,aG,↓IT,V.pure,VV,seval];refine⟨sC,?_⟩;rw[<- B];have am:F (lf L k.id)<F L:=E8.2 ⟨_,AA u,by simp⟩;have ZX:=Q.swap (o':=iN g (M.set (gP M (bf e)) ⟨next,bf e,e,cR e.ao2⟩)) (X:=[]);rw[bM]at ZX;refine cB (EI _ _ (lf L k.id) h f J ZX next (by rw[tl,ac,ite_self]) (by omega) (cR e.ao2) Ui) rfl ?_;rintro r S ⟨rfl,p,m,C,w,rfl,ad,H⟩;have q:p[0]?=N (iN g (M.set (gP M (bf e)) ⟨next,bf e,e,cR e.ao2⟩)):=H.2 0 _ rfl (by simp[iN,still]);obtain⟨v,rfl⟩:∃v,p=iN g (M.set (gP M (bf e)) ⟨next,bf e,e,cR e.ao2⟩)::v:=by cases p with|nil=>simp at q|cons o v=>simp only[aH,aa]at q;exact⟨v,by rw[q]⟩
 simp only[↓IT,VV,seval];exact fv (.inr rfl) rfl (Wk.refl _ _) rfl ⟨rfl,n,v,m,C,w,rfl,ad⟩

set_option maxRecDepth 8000
set_option maxHeartbeats 4000000
def iR(e:En):Int:=if cJ e≠0 then cJ e else if bf e∈l.map fe.key\/F l<1024 then 0 else 3
def OF(next:Int)(g:Nat)(M:List fe)(a:ag)(k:mM M)(o:F M<=1024) (e:En) (c:e.apa) (h0:iR M e≠0) : PC θ 27 [.ptr (F J+4) 0,.agg e.aoZ] (jZ E J L T U next g M a) (λr l=>r=.I (iR M e)/\l=jZ E J L T U next g M a):=by
 refine a6 func27 c27 λd n=>ay ?_;have p:=c.ao2;have s:=c.nY;have q:=c.ao7;have j:∀X,(jZ E J L T U next g M a++X)[F J+4]?=N (.box 105 [.ptr (F J+3) 0,.own (F J+5) g,.I next]):=λX=>by simp[jZ,pX,J4]
 have i:∀X,(jZ E J L T U next g M a++X)[F J+5]?=N (.row 108 11 176 g Z (M.map fe.aoZ)):=λX=>by simp[jZ,pX,iN]
 simp only[p27,SS,seval];simp only[En.aoZ,↓IT,VV,seval];refine aA (mh e c _) (by simp only[En.aoZ,VV,seval]) ?_;simp only[↓IT,VV,seval];refine⟨λh=>?_,λh=>?_⟩
 .have h:cJ e≠0:=by simpa using h
  exact bl d (.inr rfl) (by simp only[RS,seval];rfl) (by simp[LW]) ⟨by rw[iR,aK h];rfl,rfl⟩
 have h:cJ e=0:=by simpa using h
 rw[iR,au (by simp[h])]at h0;have b:¬(bf e∈M.map fe.key\/F M<1024):=λb=>h0 (aK b);refine aA (yd e c _) (by simp only[En.aoZ,VV,seval]) ?_;simp only[↓IT,VV,seval];refine aA (GQ J L T U next g M a k (by omega) (bf e) _) rfl ?_;have f:decide (bf e∈M.map fe.key)=Z:=oC λh=>b (.inl h);have m:decide ((1024:Int)<=(F M:Int))=A:=by have:¬F M<1024:=λh=>b (.inr h);simp;omega
 simp only[j,i,f,m,ae,↓IT,VV,seval];exact bl d (.inr rfl) (by simp only[RS,seval];rfl) (by simp[LW]) ⟨by rw[iR,au (by simp[h]),au b];rfl,rfl⟩
def qu(next:Int)(e:En):fe:=⟨next,bf e,e,cR e.ao2⟩
def pV(next:Int)(e:En):List fe :=if iR l e=0 then(if bf e∈l.map fe.key then l.set (gP l (bf e)) (qu next e)else l.take (gP l (bf e))++qu next e::l.drop (gP l (bf e)))else l
def uH(next:Int)(e:En):Int:=if iR l e=0 then next+1 else next
def JY:Int×List It:=(x.id,x.cR)
def Uf(e:LE):Int×List It:=(e.1,e.2.1)
def J6(next:Int)(S:ag):Prop :=∃E L a b g T,S=jZ E J L a b next g l T/\DV (F J) (iN g l::T) L a b/\(L.map Uf).Perm (l.map JY)/\∀e∈L,e.1<next
def J6.app{next:Int}(h:J6 S X next K)(a:ag):J6 S X next (K++a):=by obtain⟨E,L,d,e,g,T,rfl,c,b,f⟩:=h;exact⟨E,L,d,e,g,T++a,AB ..,c.swap,b,f⟩
def DV.af1(T:ag):DV g T [] [] [] :=⟨kg,λe b=>by simp at b,λe b=>by simp at b,⟨kg,λk r a h=>by simp[bZ,eO]at h,λk h=>rfl,λk c r a d h=>by simp[bZ,eO]at h⟩,
  ⟨kg,λk r a h=>by simp[bZ,eO]at h,λk h=>rfl,λk c r a d h=>by simp[bZ,eO]at h⟩,λk r a c f d h=>by simp[bZ,eO]at h⟩
def J6.new:J6 J [] 0 (jZ ix0 J [] [] [] 0 0 [] []) :=⟨ix0,[],[],[],0,[],rfl,DV.af1 _ _,List.Perm.refl _,λe a=>by cases a⟩
def J6.pre{next:Int}(h:J6 S X next K):∃a,K=S++a:=by obtain⟨E,L,b,c,g,T,rfl,_⟩:=h;exact⟨_,rfl⟩
def Rw{B:List fe}(d:(P.map (·.1)).Nodup)(a:(P.map Uf).Perm ((X++G::B).map JY)):((lf P G.id).map Uf).Perm ((X++B).map JY):=by
 have b:(((X++G::B).map JY).map (·.1)).Nodup:=(a.map _).nodup_iff.1 (by rw[im];exact d);have f:(lf P G.id).map Uf=(P.map Uf).filter λp=>!decide (p.1=G.id):=by unfold lf;rw[List.filter_map];rfl
 rw[f];refine(a.filter _).trans ?_;have h:∀p∈X.map JY,(!decide (p.1=G.id))=A:=λp a=>by
  obtain⟨x,c,rfl⟩:=br.1 a;have:x.id≠G.id:=λe=>by simp only[cF,aC,fp]at b;exact b.2.2 x.id (br.2 ⟨_,gr c,rfl⟩) G.id (ph ..) e
  simp[JY,this]
 have g:∀p∈B.map JY,(!decide (p.1=G.id))=A:=λp a=>by
  obtain⟨x,c,rfl⟩:=br.1 a;have:x.id≠G.id:=λe=>by simp only[cF,aC,fp]at b;exact(eu.1 b.2.1).1 (br.2 ⟨_,gr c,e⟩)
  simp[JY,this]
 rw[cF,aC,iW,ly (by simp[JY]),lj.2 h,lj.2 g,cF]
def Rv(f:(P.map (·.1)).Nodup)(d:(P.map Uf).Perm (X.map JY))(a:X[n]?=N G):((lf P G.id).map Uf).Perm ((X.take n++X.drop (n+1)).map JY):=by
 have e:=(ab.1 a).1;have b:X.take n++G::X.drop (n+1)=X:=by
  have c:X.drop n=G::X.drop (n+1):=by rw[cX e,(ab.1 a).2]
  rw[<- c,fP]
 exact Rw f (by rw[b];exact d)
def Rq{next:Int}(h:J6 S X next K)(J:0<=next/\next<2^60)(t:mM X)(H:F X<=1024)(e:En)(D:e.apa)(M:F (cR e.ao2)<2^27): PC θ 27 [.ptr (F S+4) 0,.agg e.aoZ] K (λr u=>r=.I (iR X e)/\J6 S (pV X next e) (uH X next e) u):=by
 obtain⟨E,L,s,p,g,T,rfl,q,k,w⟩:=h;have n:bZ next L=Y:=by cases O:bZ next L with|none=>rfl|some v=>have:=w _ (AA O);simp at this
 have ac:F L=F X:=by have:=k.length_eq;simpa using this
 by_cases b:iR X e=0
 .have z:cJ e=0:=by
   unfold iR at b;split at b;.exact b
   rename_i h;simpa using h
  by_cases j:bf e∈X.map fe.key
  .obtain⟨i,o,P⟩:=(tY t _).1 j;have R:(i.id,i.cR)∈L.map Uf:=k.mem_iff.2 (br.2 ⟨i,bc o,rfl⟩);obtain⟨x,l,Ax⟩:=br.1 R;have G:∃v,bZ i.id L=N v:=by have:i.id∈L.map (·.1):=br.2 ⟨x,l,by have:=congrArg Prod.fst Ax;exact this⟩;exact ox.1 ((iK _ _).1 this)
   obtain⟨⟨U,V⟩,y⟩:=G;refine(OD S L s p next J g X T q n (by omega) H t e D z i o P U V y M).mono ?_;rintro r u ⟨rfl,Q,C,m,d,c,rfl,f⟩;refine⟨by rw[b],?_⟩;rw[pV,aK b,aK j,uH,aK b];refine⟨Q,_,d,c,g,C,rfl,f,?_,λx l=>?_⟩;.have sC:=(ab.1 o).1;rw[cF,pv,aK sC];have a:=Rv q.keys k o;simp only[cF,aC]at a |-;refine(a.append_right _).trans ?_;rw[aS];exact mC _ (List.perm_append_comm.trans (List.Perm.refl _))
   rcases bR.1 l with a|a;.have:=w x (cV.1 a).1;omega
   simp only[cj]at a;subst a;simp;omega
  have B:F X<1024:=by
   unfold iR at b;rw[au (by simp[z])]at b;split at b
   .rename_i a;rcases a with a|a;.exact absurd a j
    exact a
   cases b
  refine(OE S L s p next J g X T q n (by omega) B t e D z j M).mono ?_;rintro r u ⟨rfl,C,m,d,c,rfl,f⟩;refine⟨by rw[b],?_⟩;rw[pV,aK b,au j,uH,aK b];refine⟨E,_,d,c,g+1,C,rfl,f,?_,λx l=>?_⟩
  .rw[cF,cF,aC];refine(k.append_right _).trans ?_;have W:X.map JY=(X.take (gP X (bf e))).map JY++(X.drop (gP X (bf e))).map JY:=by rw[<- List.map_append,fP]
   rw[W,aS];exact mC _ List.perm_append_comm
  rcases bR.1 l with a|a;.have:=w x a;omega
  simp only[cj]at a;subst a;simp;omega
 refine(OF S L s p next g X T t H e D b).mono ?_;rintro r u ⟨rfl,rfl⟩;rw[pV,au b,uH,au b];exact⟨rfl,E,L,s,p,g,T,rfl,q,k,w⟩

set_option maxHeartbeats 1000000
structure DU (M:List fe):Prop where
 len:M.length<=1024
 NJ:mM M
 ok:∀s∈M,s.key=bf s.en/\s.cR=cR s.en.ao2/\cJ s.en=0/\s.en.apa
def DU.nil:DU []:=⟨by decide,by simp[mM],λs a=>by cases a⟩
def DU.join(h:DU X)(b:G∈X):ed G.en=G.key:=by obtain⟨a,_,c,_⟩:=h.ok G b;rw[a,bf,au (by rw[c];decide)]
def DU.keys(h:DU X):(X.map fe.en).map ed=X.map fe.key:=by rw[im];exact di λs a=>h.join a
def DU.mem(h:DU X):zJ (X.map fe.en) :=⟨by rw[ae];exact h.len,λe a=>by obtain⟨s,b,rfl⟩:=br.1 a;exact(h.ok s b).2.2.1,by rw[h.keys];exact h.NJ⟩
def DU.apa(h:DU X):∀e∈X.map fe.en,e.apa:=λe a=>by obtain⟨s,b,rfl⟩:=br.1 a;exact(h.ok s b).2.2.2
def vu(h:DU X)(k:aJ):below (X.map fe.en) k=gP X k:=by
 have a:∀(l:List fe),(∀s∈l,ed s.en=s.key)->below (l.map fe.en) k=gP l k:=by
  intro l;induction l with
  |nil=>intro _;rfl
  |cons x l ih =>
  intro c;have e:Op.bytesLess (ed x.en) k=decide (gw x.key k<0):=by rw[kS,c x (by simp)]
  have ih:=ih λs b=>c s (by simp[b]);simp only[below,gP,rC,aC,fk,e]at ih |-;split<;>simp[ih]
 exact a X λs b=>h.join b
def wR(h:DU X)(e:En):Jb (X.map fe.en) e<->bf e∈X.map fe.key:=by
 rw[tY h.NJ];unfold Jb;rw[vu h];simp only[bu,al];constructor;.rintro⟨x,⟨s,a,rfl⟩,b⟩;exact⟨s,a,by rw[<- b,h.join (bc a)]⟩
 rintro⟨s,a,b⟩;exact⟨s.en,⟨s,a,rfl⟩,by rw[h.join (bc a),b]⟩
def Mq(h:DU X)(e:En):iR X e=nD (X.map fe.en) e:=by
 unfold iR nD;rw[ae];split;.rfl
 by_cases a:bf e∈X.map fe.key\/F X<1024;.rw[aK a,aK (by rwa [wR h])]
 rw[au a,au (by rwa [wR h])]
def UX(h:DU X)(next:Int)(e:En)(h0:iR X e=0):(pV X next e).map fe.en=uF (X.map fe.en) e:=by
 have c:nD (X.map fe.en) e=0:=by rw[<- Mq h];exact h0
 by_cases a:bf e∈X.map fe.key
 .have b:pV X next e=X.set (gP X (bf e)) (qu next e):=by rw[pV,aK h0,aK a]
  rw[b,uF,aK c,vu h,aK ((wR h e).2 a)];obtain⟨g,f,_⟩:=(tY h.NJ _).1 a;rw[pv,aK (ab.1 f).1];simp[qu,me,sn]
 have b:pV X next e=X.take (gP X (bf e))++qu next e::X.drop (gP X (bf e)):=by rw[pV,aK h0,au a]
 rw[b,uF,aK c,vu h,au (λd=>a ((wR h e).1 d))];simp[qu,me,sn]
def Kj(c:mM X)(k:aJ):∀s∈X.take (gP X k),gw s.key k<0:=λs b=>by
 obtain⟨i,a⟩:=eC.1 b;rw[gd]at a;split at a;.rename_i h;exact(yk c k i s a).2 h
 cases a
def LN(c:mM X)(k:aJ):∀s∈X.drop (gP X k),¬gw s.key k<0:=λs b h=>by obtain⟨i,a⟩:=eC.1 b;rw[dV]at a;have:=(yk c k _ s a).1 h;omega
def UY(h:DU X)(next:Int)(e:En)(E:e.apa):DU (pV X next e):=by
 unfold pV;split
 .rename_i f;have o:cJ e=0:=by
   unfold iR at f;split at f;.exact f
   rename_i h;simpa using h
  have x:(qu next e).key=bf (qu next e).en/\(qu next e).cR=cR (qu next e).en.ao2/\cJ (qu next e).en=0/\(qu next e).en.apa:=⟨rfl,rfl,o,E⟩;have G:=Gw X (bf e);have g:∀B:List fe,(∀s∈B,s∈X)->mM B->(∀s∈B,gw (bf e) s.key<0)->gP X (bf e)+1+F B<=1024->DU (X.take (gP X (bf e))++qu next e::B):=λB q C n O =>
   ⟨by rw[ai,bB,ah];omega,by
    unfold mM;rw[cF,aC,G9,lU];have v:((X.take (gP X (bf e))).map fe.key).Pairwise λa b=>gw a b<0:=by rw[me];exact h.NJ.sublist (List.take_sublist _ _)
    refine⟨v,⟨λy z=>?_,C⟩,λa D b l=>?_⟩;.obtain⟨s,c,rfl⟩:=br.1 z;exact n s c
    obtain⟨s,c,rfl⟩:=br.1 D;have k:=Kj h.NJ _ s c;rcases bE.1 l with rfl|l;.exact k
    obtain⟨t,r,rfl⟩:=br.1 l;exact p8 k (n t r),λs c=>by
    rcases bR.1 c with d|d;.exact h.ok s (dv d)
    rcases bE.1 d with rfl|d;.exact x
    exact h.ok s (q s d)⟩;split
  .rename_i j;obtain⟨J,p,u⟩:=(tY h.NJ _).1 j;have H:=(ab.1 p).1;rw[pv,aK H];refine g _ (λs c=>eU c) ?_ (λs c=>?_) (by rw[bY];have:=h.len;omega);.unfold mM;rw[sn];exact h.NJ.sublist (List.drop_sublist _ _)
   obtain⟨i,m⟩:=eC.1 c;rw[dV]at m;have M:=(ab.1 m).1;have:=xy.1 h.NJ (gP X (bf e)) (gP X (bf e)+1+i) (by rw[ae];omega) (by rw[ae];omega) (by omega);rw[List.getElem_map,List.getElem_map,(ab.1 p).2,(ab.1 m).2,u]at this;exact this
  rename_i j;have L:F X<1024:=by
   unfold iR at f;rw[au (by simp[o])]at f;split at f;.rename_i d;exact d.elim (λh=>absurd h j) id
   cases f
  refine g _ (λs c=>eU c) ?_ (λs c=>?_) (by rw[bY];omega);.unfold mM;rw[sn];exact h.NJ.sublist (List.drop_sublist _ _)
  have d:=LN h.NJ _ s c;have k:s.key≠bf e:=λw=>j (br.2 ⟨s,eU c,w⟩);have I:=lF.mI s.key (bf e);have K:gw s.key (bf e)≠0:=λh=>k (oB.1 h);omega
 exact h
def UW(next:Int)(e:En):∀s∈pV X next e,s∈X\/s.en=e:=λs a=>by
 unfold pV at a;split at a
 .split at a
  .rcases abb a with h|h;.exact .inl h
   exact .inr (by rw[h];rfl)
  rcases bR.1 a with h|h;.exact .inl (dv h)
  rcases bE.1 h with h|h;.exact .inr (by rw[h];rfl)
  exact .inl (eU h)
 exact .inl a
def UZ{M:List fe}(next:Int)(e:En):F (pV M next e)<=F M+1:=by
 unfold pV;split
 .split;.rw[dI];omega
  rw[ai,bB,ah,bY];omega
 omega

set_option maxRecDepth 8000
set_option maxHeartbeats 2000000
def Zg{K:bj}(P:F H<=2048)(x:∀e∈H,e.apa/\F (cR e.ao2)<=2^20):∀(b pre:List En) (M:List fe) (next:Int) (a:ag),H=pre++b->J6 S M next a->DU M->(∀s∈M,s.en∈H)->F M<=F pre->0<=next->next<=F pre ->(∀(j:List fe) (next':Int) (l:ag),J6 S j next' l->DU j->(∀s∈j,s.en∈H)->F j<=F H->((fj 5 (fh (.ptr (F S+4) 0) (fh (.sl 8 ((j.map fe.en).map En.aoZ)) (fj 29 fo)))) λO=>K (.exit 0) ⟨O,l⟩)) ->fS n θ MS K (F b+1) ⟨(uu 5 (.ptr (F S+4) 0::.sl 8 ((M.map fe.en).map En.aoZ)::uu 5 (.sl 8 (H.map En.aoZ)::.I (F H)::.I (F pre)::uu 21 []))),a⟩:=by
 intro b;induction b with
 |nil =>intro pre M next a f u c r d i E t;have f:=db f;subst f;refine aF λR z=>?_;simp only[MS,VV,seval];exact⟨λh=>by simp at h,λ_=>t M next a u c r d ..⟩
 |cons e b ih =>
 intro pre M next a f u c r d i E t;have Q:=uY f;have D:=dY pre e (by omega);have L:decide ((F pre:Int)<(F H:Int))=A:=by simp;omega
 have J:(H.map En.aoZ).getD (F pre) []=e.aoZ:=by rw[f];simp[aq]
 have C:e∈H:=by rw[f];simp
 have m:=x e C;have G:e.aoZ.take 8=e.aoZ:=by simp[En.aoZ]
 refine aF λR z=>?_;simp only[MS,L,J,G,aG,ae,V.pure,↓IT,VV,seval];refine⟨⟨by omega,by omega⟩,by simp[En.aoZ],?_⟩;simp only[En.aoZ,V.pure,↓IT,VV,seval];refine aA (UT (M.map fe.en) c.mem c.apa e m.1 _) (by simp only[En.aoZ,VV,seval]) ?_;simp only[V.pure,↓IT,VV,seval];rw[<- Mq c];refine cB (Rq (u.app _) (by omega) c.NJ c.len e m.1 (by have:=m.2;omega)) (by simp only[En.aoZ,VV,seval]) ?_;rintro _ l ⟨rfl,q⟩;have B:(iR M e != iR M e)=Z:=by simp
 have o:=UY c next e m.1;have g:∀s∈pV M next e,s.en∈H:=λs x=>(UW next e s x).elim (r s) λh=>by rw[h];exact C
 have w:=UZ (M:=M) next e;have v:0<=uH M next e/\uH M next e<=next+1:=by unfold uH;split<;>omega
 have k:=ih (pre++[e]) (pV M next e) (uH M next e) l (by simp[f]) q o g (by rw[ai,iQ];omega) v.1 (by rw[ai,iQ];omega) t;by_cases i:iR M e=0
 .have y:=UX c next e i;have p:(iR M e==0)=A:=by simp[i]
  rw[<- y];simp only[B,p,D,V.pure,↓IT,VV,seval];exact z _ (aX (by repeat' constructor) k)
 have y:pV M next e=M:=by rw[pV,au i]
 have p:(iR M e==0)=Z:=by simp[i]
 rw[y]at k;simp only[B,p,D,V.pure,↓IT,VV,seval];exact z _ (aX (by repeat' constructor) k)
def P2(g:F H<=2048)(c:∀e∈H,e.apa/\F (cR e.ao2)<=2^20)(J:ag):PC θ 22 [.sl 8 (H.map En.aoZ)] J (λr d=>∃M next,r=.gy [.ptr (F J+4) 0,.sl 8 ((M.map fe.en).map En.aoZ),.b A]/\J6 J M next d/\DU M/\(∀s∈M,s.en∈H)/\F M<=F H):=by refine a6 func22 c22 λk j=>ay ?_;simp only[p22,SS,seval];simp only[V.pure,↓IT,VV,seval];refine aA (ER _) rfl ?_;simp only[ae,V.pure,↓IT,VV,seval];refine cd.aX (fr':=(uu 5 (.ptr (F J+4) 0::.sl 8 ((([]:List fe).map fe.en).map En.aoZ)::uu 5 (.sl 8 (H.map En.aoZ)::.I (F H)::.I (F ([]:List En):Nat)::uu 21 [])))) (by repeat' constructor) (F H+1) (Zg H g c H [] [] 0 _ rfl (J6.new J) DU.nil (λs c=>by cases c) (eR _) (cP _) (cP _) ?_);intro M next d i h f a;simp only[JE];intros;simp only[V.pure,↓IT,VV,seval];exact fv (.inr rfl) rfl (Wk.refl _ _) rfl ⟨M,next,rfl,i,h,f,a⟩

set_option maxRecDepth 4000
set_option maxHeartbeats 1000000
def qa(h:S[n]?=N o)(l:ag):(S++l)[n]?=N o:=by rw[aj (ab.1 h).1];exact h
def Xo{ea eb ec:Nat}{S:ag}(w O K:Nat)(X:S[g]?=N (.box 170 [.mp w,.mp O,.mp K]))(L:List LE)(T:F L<2^20)(h1:S[w]?=N (.map 3 ea (emap eZ BL L)))(J:List (GK×(Nat×Nat)))(l:GK->df)(h2:S[O]?=N (.map 184 eb (emap pt mW J))) (EJ:∀k r d,bZ k J=N (r,d)->S[r]?=N (je 190 d (l k))) (Lq:∀k,bZ k J=Y->l k=[]) (GG:∀k,∀p∈l k,0<=p.2) (ZL:∀k,F (l k)<2^30) (B:List (TK×(Nat×Nat))) (f:TK->df) (h3:S[K]?=N (.map 150 ec (emap iv mW B))) (Sw:∀k r d,bZ k B=N (r,d)->S[r]?=N (je 190 d (f k))) (Lp:∀k,bZ k B=Y->f k=[]) (Wm:∀k,∀p∈f k,0<=p.2) (ZK:∀k,F (f k)<2^30) (q:List It) (W:F q<2^27) (C1:∀d∈cE (a8 q),0<=d.2) (Nu:∀p∈kh [] q,0<=p.2) (hm:jL (qJ l (cE (a8 q)))+jL (qK f (kh [] q))<=2^40) (p:Int) (hp : -(2^40)<=p/\p<=2^40) (hq:(jB q).ok (2^40)/\0<=ic q/\ic q<=2^40) (hL:∀e∈L,(jB e.2.1).ok (2^40)/\0<=ic e.2.1/\ic e.2.1<=2^40) : PC θ 58 [.ptr g 0,.sl 3 (q.map It.aoZ),.I p] S (λr S'=>∃(D:List (TK×Int)) (E:List LE),D.Perm (kh [] q)/\E.Perm L/\r=.sl 1 ((((E.filter (uI q (dU (dU [] (qJ l (cE (a8 q)))) (qK f D)) p)).map (·.1)).mergeSort λg y=>decide (g<=y)).map cg)/\S'=S):=by
 refine a6 func58 c58 λV dN=>ay ?_;simp only[p58,SS,seval];simp only[VV,seval];refine aA (D9 q W _) rfl ?_;simp only[YF,r8,ye,VV,seval];generalize hT:[Ob.box 162 _,Ob.map 150 3 _,Ob.box 162 _,Ob.box 162 _]=T4;have ac:F T4=4:=by rw[<- hT];rfl
 have e3:(S++T4)[F S+1]?=N (.map 150 3 (emap iv eZ (kh [] q))):=by rw[<- hT];simp
 have e7:(S++T4)[F S+3]?=N (.box 162 (r8 q (F S+1))):=by rw[<- hT];simp[r8,ye]
 refine cB (N9 (S:=S++T4) g w O K (F S+1) (qa X _) J l (qa h2 _) (λk r d h=>qa (EJ k r d h) _) Lq GG ZL B f (qa h3 _) (λk r d h=>qa (Sw k r d h) _) Lp Wm ZK q W e3 C1 Nu hm) rfl ?_;rintro r S' ⟨D,u,m,z,rfl,rfl⟩;have e8:∀a b c,(S++T4++[a,b,c])[F (S++T4)+1]?=N b:=λa b c=>by rw[aD (by omega)];simp
 have n:=e8 (.box 162 (r8 q (F S+1))) (.map 3 160 (emap eZ oz (dU (dU [] (qJ l (cE (a8 q)))) (qK f D)))) (.iter Z (F S+1) 3 (F (emap iv eZ (kh [] q))) u m);have x:=qa e7 [.box 162 (r8 q (F S+1)),.map 3 160 (emap eZ oz (dU (dU [] (qJ l (cE (a8 q)))) (qK f D))),.iter Z (F S+1) 3 (F (emap iv eZ (kh [] q))) u m];have v:=qa (qa X T4) [.box 162 (r8 q (F S+1)),.map 3 160 (emap eZ oz (dU (dU [] (qJ l (cE (a8 q)))) (qK f D))),.iter Z (F S+1) 3 (F (emap iv eZ (kh [] q))) u m];have t:=qa (qa h1 T4) [.box 162 (r8 q (F S+1)),.map 3 160 (emap eZ oz (dU (dU [] (qJ l (cE (a8 q)))) (qK f D))),.iter Z (F S+1) 3 (F (emap iv eZ (kh [] q))) u m];have U:∃C,S++T4++[.box 162 (r8 q (F S+1)),.map 3 160 (emap eZ oz (dU (dU [] (qJ l (cE (a8 q)))) (qK f D))),.iter Z (F S+1) 3 (F (emap iv eZ (kh [] q))) u m]=S++C:=⟨_,aS ..⟩;generalize S++T4++[Ob.box 162 (r8 q (F S+1)),.map 3 160 (emap eZ oz (dU (dU [] (qJ l (cE (a8 q)))) (qK f D))),.iter Z (F S+1) 3 (F (emap iv eZ (kh [] q))) u m]=S5 at n x v t U |-;simp only[v,t,VV,seval];rw[ai]at n;have Az:Qu (qJ l (cE (a8 q))):=λi s=>by obtain⟨d,P,s⟩:=jN.1 s;exact Nd (C1 d P) (GG _) i s
 have Q:Qu (qK f D):=λi s=>by obtain⟨d,P,s⟩:=jN.1 s;exact Au (Nu d (z.mem_iff.1 P)) (Wm _) i s
 have am:jL (qK f D)=jL (qK f (kh [] q)):=sL _ z;have hO:OB (2^40) (dU (dU [] (qJ l (cE (a8 q)))) (qK f D)):=((OB.nil.apply _ Az).apply _ Q).mono (by omega);refine cd.aX (fr':=(uu 2 (.I p::uu 4 (.ptr (F S+3) 0::.mp (F S+F T4+1)::.nil::uu 11 (.it (F S5+0)::uu 28 []))))) (by repeat' constructor) (F (emap eZ BL L)+1) (Y6 w (F S+3) (F S+F T4+1) (F S+1) L T t q x _ hO n p hp hq hL 0 _ (List.range (F (emap eZ BL L))) Y [] .nil [.iter Z w ea (F (emap eZ BL L)) (List.range (F (emap eZ BL L))) Y] (by simp) lx (by simp[emap]) (by simp[emap]) (by simp) (.inl ⟨rfl,rfl⟩) ?_);rintro E v' G H GL;rw[oX,mU]at H;rw[bg]at GL;simp only[JE];intros;rcases GL with⟨Ln,rfl⟩|⟨j,d,rfl,ad,hj⟩
 .simp only[VV,seval];refine aA (PC.UM Tryz.XB) rfl ?_;obtain⟨C,rfl⟩:=U;simp only[aS,VV,seval];refine pA (ys:=[.sl 1 []]) V (.inr rfl) (by simp only[RS,seval];rfl) ?_ ?_ ⟨D,E,z,H,by rw[Ln];simp;rfl,rfl⟩;.exact .cons (.nil _) .nil
  simp[LW]
 simp only[VV,seval];have R:∀o,(S5++G).set (F S5+j) o=S5++G.set j o:=λo=>by rw[b8 _ _ (by omega)];simp
 have M:(S5++G)[F S5+j]?=G[j]?:=by rw[aD (by omega)];simp
 have af:=H.length_eq;have uq:=fQ (uI q (dU (dU [] (qJ l (cE (a8 q)))) (qK f D)) p) E;refine aA (PC.Q6 Tryz.XB _ (by rw[ae];omega) (M.trans hj)) rfl ?_;rw[R];have lz:=(ab.1 hj).1;obtain⟨C,rfl⟩:=U;simp only[aS,ai,VV,seval];refine ru (F C+j) V (.inr rfl) (by simp only[RS,seval];rfl) (by rw[aD (by omega),dD,aw lz]) ?_ ⟨D,E,z,H,?_,rfl⟩;.simp[fz,sk,LW,gB]
 simp only[fz,sk,gB,aC,bI];simp;rfl
end Go.Proofs.Tryz
