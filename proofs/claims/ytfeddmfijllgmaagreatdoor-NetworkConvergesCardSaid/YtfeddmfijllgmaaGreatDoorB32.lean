/- A part of a proof; the claim's last text says of what. -/
import Derived.Test.YtfeddmfijllgmaaGreatDoorB31
set_option linter.all false
set_option maxHeartbeats 4000000
open Option renaming some->S,none->Z
open Bool renaming true->θ,false->G
open Go.Proofs.Tryz renaming prog->κ
open List renaming length->Y

namespace Go.Proofs.Tryz
open Go Go.Pm Go.Bt
variable(l:List aV)(o:bO)(x:aV)(m:Nat)(X:List (bU))(v:bU)(R:aj){n:Nat}{J:aj}{K:bL}
def yN:PC κ 14 [.sl 1 (v.map cN)] R (λr a=>r=.ptr R.length 0/\a=R++[.box 84 [.sl 1 (v.map cN),.I ((0:Nat):Int)]]):=by refine aW func14 p14.2 λc b=>aq ?_;simp only[p14,SS,seval];simp only[V.pure,VV,seval];exact dS (.inr rfl) rfl (Wk.refl _ _) rfl ⟨rfl,rfl⟩
def aqD:Int:=X.foldl (λa l=>IntKind.i64.wrap (a+Y l)) 0
def Cp:aB:=[.sl 1 (v.map cN)]
def aqz(e:Y X<2^63):∀(b c:List (bU)) (a:Int),X=c++b ->((fj 3 (fh (.I (b.foldl (λa l=>IntKind.i64.wrap (a+Y l)) a)) (fj 15 fo))) λi=>K (.exit 0) ⟨i,J⟩) ->gw n κ afR K (Y b+1) ⟨(uu 3 (.I a::uu 2 (.sl 1 (X.map Cp)::.I (Y X)::.I (Y c)::uu 10 []))),J⟩:=by
 intro b;induction b with
 |nil =>intro c a d f;have d:=dL d;subst d;refine az λR g=>?_;simp only[afR,VV,seval];exact⟨λh=>by simp at h,λ_=>f ..⟩
 |cons x b ih =>intro c a d f;subst d;have k:=dD c x (by simp at e;omega);have j:gv (List.map Cp (c++x::b)) c.length 0=S (.sl 1 (x.map cN)):=qK;refine az λR g=>?_;simp only[afR,ak,j,k,aa,VV,seval];refine⟨λ_=>⟨by simp;omega,?_⟩,λh=>by simp at h<;>omega⟩;refine g _ (bX ?_ (ih (c++[x]) (IntKind.i64.wrap (a+Y x)) (by simp) f));repeat' constructor
def yE:bh κ 9 [.sl 1 (X.map Cp)] R (.b (decide (160<aqD X))):=by
 refine aW func9 p9.2 λd c=>aq ?_;have a:=qP (c 0 _ rfl).1;rw[aa]at a;simp only[p9,SS,seval];simp only[aa,VV,seval];refine cB.bX ?_ (Y X+1) (aqz X a X [] 0 rfl ?_);.repeat' constructor
 simp only[JE];intros;simp only[VV,seval];exact bK (.inr rfl) rfl ⟨rfl,rfl⟩
open Go.RowKit
def P2:(prog.info? 57).map (·.size)=S 13:=by kernel_rfl
def M5(a:Array Value)(n i:Nat)(b:List Value):Array Value :=((a.toList.take (i*13)++b++(a.toList.take (n*13)).drop (i*13))++a.toList.drop ((n+1)*13)).toArray
set_option maxRecDepth 100000 in
def PY(n c i f d l:Nat)(a:Array Value)(b:List Value)(w:bQ)(hi:i<n)(xX:n+1<=c)(ad:c<=9223372036854775807)(J:f≠m) (z:w.heap[m]?=S (.cells a 57 (0,0))) (p:a.size=c*13) (Q:Y b=13) (GA:∀j v,b[j]?=S v->w.cell? ⟨f,d+j,Z⟩=S v) (C:∀v∈a.toList.take (n*13),v.oneCell'=θ) (H:∀v∈b,v.oneCell'=θ) (K L:TypeId) (t q:Nat) (Fq:w.shape? f=S (K,t)) (E:w.shape? m=S (L,q)) (D:q≠0) (xY:w.frozen? ⟨f,d,Z⟩=G) (A:w.frozen? ⟨f,t,Z⟩=G) : Calls κ 226 #[.slice (S ⟨m,0,Z⟩) n c,.int .i64 i,.slice (S ⟨f,d,Z⟩) 1 l] w λe V =>e=.returned (.slice (S ⟨m,0,Z⟩) (n+1) c)/\V=w.drew.setRow m (M5 a n i b):=by
 have F:∀s r,(callFunc 257 #[.slice (S ⟨f,d,Z⟩) 1 l,.slice (S ⟨m,(i+1)*13,Z⟩) s r]).run κ w=.ok (.value (.bool G)) w:=λs r=>by
  rw[run_callFunc_extern func257 (by kernel_rfl) (by kernel_rfl) (by kernel_rfl) (e:=Extern.SlicesOverlaps.overlaps #[53,53] #[4]) (by kernel_rfl),
   Lib.run_overlaps_apart w 53 4 57 underlying53 13 (λw=>Tryz.sizeOf57 w) ⟨f,d,Z⟩ ⟨m,(i+1)*13,Z⟩ 1 l s r J K L t q Fq E D xY A];rfl
 have M9:IntKind.i64.wrap ((i:Int)+1)=(i:Int)+1:=by rw[IntKind.wrap_i64];omega
 have Ee:IntKind.i64.wrap ((n:Int)+1)=(n:Int)+1:=by rw[IntKind.wrap_i64];omega
 have ac:¬((i:Int)=(n:Int)):=by omega
 have X2:(0:Int)<=(i:Int)+1:=by omega
 have HU:i<=n:=by omega
 have X:((i:Int)+1).toNat=i+1:=by omega
 have T:((n:Int)+1).toNat=n+1:=by omega
 have tt:¬(c=i+1):=by omega
 have am:(i:Int)<=(n:Int)+1:=by omega
 have af:¬(c=i):=by omega
 have N:=underlying53;have o:Y ((a.toList.take (n*13)).drop (i*13))=(n - i)*13:=by rw[ca,bj,bf,p,zB];have:n*13<=c*13:=cg _ (by omega);omega
 generalize u:(a.toList.take (n*13)).drop (i*13)=cs at o;have U:∀j v,cs[j]?=S v->(w.drew).cell? ((⟨m,i*13,Z⟩:Addr).add j)=S v:=by
  intro j v k;rw[<- u,ei,fZ]at k;split at k;.rw[Addr.add_lit];simp only[World.cell?,show w.drew.heap[m]?=S (.cells a 57 (0,0))from z];simpa using k
  cases k
 have mixed:prog.follows Departure.mixedOrders=θ:=by kernel_rfl
 have Vq:Nat.min (n+1 - i) (n - i)=n - i:=Nat.min_eq_right (by omega);have I:∀g h sc,(Builtin.copy_ #[53,53] g #[.slice (S ⟨m,(i+1)*13,Z⟩) (n - i) h,.slice (S ⟨m,i*13,Z⟩) (n+1 - i) sc]).run κ w.drew=.ok (goInt (Nat.min (n+1 - i) (n - i):Nat)) (w.drew.setRow m (a.toList.take ((i+1)*13)++cs++a.toList.drop ((i+1)*13+Y cs)).toArray):=λg h sc =>
  qQ w.drew _ _ g 57 m ((i+1)*13) _ h ⟨m,i*13,Z⟩ _ sc a 57 cs 13 N P2 z (by rw[o,Vq]) U (by rw[o,p];omega)
   (λv W=>C v (eO (u▸W)));generalize M:(a.toList.take ((i+1)*13)++(cs++a.toList.drop ((i+1)*13+(n - i)*13))).toArray=cur1;have Vn:cur1.size=c*13:=by rw[<- M];simp only[fI,ah,bj,ca,bf,o,p];omega
 have x:(w.drew.setRow m cur1).heap[m]?=S (.cells cur1 57 (0,0)):=setRow_heap w.drew m a cur1 57 (0,0) z;have R:Nat.min 1 (n+1 - i)=1:=fP (by omega);have y:∀g h,(Builtin.copy_ #[53,53] g #[.slice (S ⟨m,i*13,Z⟩) (n+1 - i) h,.slice (S ⟨f,d,Z⟩) 1 l]).run κ (w.drew.setRow m cur1)=.ok (goInt (Nat.min 1 (n+1 - i):Nat)) ((w.drew.setRow m cur1).setRow m (cur1.toList.take (i*13)++b++cur1.toList.drop (i*13+Y b)).toArray):=λg h =>
  qQ _ _ _ g 57 m (i*13) _ h ⟨f,d,Z⟩ _ l cur1 57 b 13 N P2 x (by rw[Q,R]) (λj v k=>by rw[Addr.add_lit];have O:=GA j v k;simp only[World.cell?,World.setRow,fk,aw (EM J)]at O |-;exact O) (by rw[Q,Vn];omega) H;go_enter func226,Tryz.ntmps226;go_wp2_with (simp only[F]);go_region_law_o (refine step_copy_runI rfl _ _ 53 53 rfl _ _ (by simp[Act.eval,Act.put]) (by simp[Act.eval,Act.put]) (I _ _ _) ?_);go_wp2_with (at_builtin;refine wpList_copy_runI _ rfl _ _ 53 53 rfl _ _ rfl rfl (y _ _) ?_);go_ret;refine⟨rfl,?_⟩;rw[setRow_setRow];have B:Y ((a.toList.take ((i+1)*13)))=(i+1)*13:=by rw[bj,bf,p];omega
 have P:cur1.toList=a.toList.take ((i+1)*13)++(cs++a.toList.drop ((i+1)*13+(n - i)*13)):=by rw[<- M]
 have e2:cur1.toList.take (i*13)=a.toList.take (i*13):=by rw[P,dW (by rw[B];omega),oK,fP (by omega)]
 have e3:cur1.toList.drop (i*13+13)=cs++a.toList.drop ((n+1)*13):=by rw[P,na (by rw[B];omega),qO (by rw[B];omega),ay];congr 2;omega
 rw[e2,e3,M5,u];simp only[aO]
set_option maxRecDepth 100000 in
def SN(g n i t d K:Nat)(b:Array Value)(c:List Value)(w:bQ)(hi:i<n)(a3:n<=2^30) (M:w.heap[g]?=S (.cells b 57 (0,0))) (u:b.size=n*13) (H:Y c=13) (GA:∀j v,c[j]?=S v->w.cell? ⟨t,d+j,Z⟩=S v) (N:∀v∈b.toList,v.oneCell'=θ) (L:∀v∈c,v.oneCell'=θ) (V:t<w.heap.size) : Calls κ 226 #[.slice (S ⟨g,0,Z⟩) n n,.int .i64 i,.slice (S ⟨t,d,Z⟩) 1 K] w λe w' =>∃(a:Nat) (row:Array Value),e=.returned (.slice (S ⟨w.heap.size,0,Z⟩) (n+1) a)/\n+1<=a/\a<=maxLen/\row.size=a*13 /\row.toList.take ((n+1)*13)=b.toList.take (i*13)++c++b.toList.drop (i*13)/\w'.heap[w.heap.size]?=S (.cells row 57 (0,0))/\w.grownBy w' Z:=by
 obtain⟨i0,z,ZP,J,P,E,sj⟩:=tq (T:=57) (n:=13) (by':=184) (by kernel_rfl);have U:=underlying53;have hI:=underlying3;have mixed:prog.follows Departure.mixedOrders=θ:=by kernel_rfl
 have Q:g<w.heap.size:=(cY.1 M).1;have o:(Builtin.firstCells i0.size i (.slice (S ⟨g,0,Z⟩) i n)).run κ w.drew=.ok (b.toList.take (i*13)).toArray w.drew:=by
  rw[P];exact run_firstCells_some w.drew 13 i ⟨g,0,Z⟩ i n (b.toList.take (i*13)) (by rw[bj,bf,u];omega) (λj v m=>by
   rw[Addr.add_lit];rw[fZ]at m;split at m;.simp only[World.cell?,show w.drew.heap[g]?=S (.cells b 57 (0,0))from M];simpa using m
   cases m)
 have p:i+(n+1 - i)=n+1:=by omega
 have TW:(n:Int)+1 - (i:Int)=((n+1 - i:Nat):Int):=by omega
 have r:∀f,(Builtin.append_ #[53,3] f #[.slice (S ⟨g,0,Z⟩) i n,.int .i64 ((n:Int)+1 - (i:Int))]).run κ w =
   .ok (.slice (S ⟨w.heap.size,0,Z⟩) (n+1) (grownCap w (n+1) n 57)) (w.drew.alloc (.cells ((b.toList.take (i*13)).toArray++Builtin.zeroCells z.cells (n+1 - i)++Builtin.zeroCells z.cells (grownCap w (n+1) n 57 - (n+1))) 57)):=λf=>by have h:=Lib.run_append_grow_zeros w 53 3 f 57 i0 z .i64 .i64 U hI ZP J (S ⟨g,0,Z⟩) i n (b.toList.take (i*13)) o (n+1 - i) (by omega) (by omega) (by omega) (by omega) (by rw[E];omega) (by rw[E,p];exact growslice_fits (by omega) (by omega));rw[p]at h;rw[TW];exact h
 have y:n+1<=grownCap w (n+1) n 57:=grownCap_ge w _ _ _;have q:grownCap w (n+1) n 57<=maxLen:=grownCap_le_maxLen w _ _ _ (by unfold maxLen;omega);generalize hG:grownCap w (n+1) n 57=a at r y q;have Vj:∀k,(Builtin.zeroCells z.cells k).size=k*13:=λk=>by simp[Builtin.zeroCells,sj]
 have l:((b.toList.take (i*13)).toArray++Builtin.zeroCells z.cells (n+1 - i)++Builtin.zeroCells z.cells (a - (n+1))).size=a*13:=by rw[kS,kS,Vj,Vj,fI,bj,bf,u];omega
 have C:((b.toList.take (i*13)).toArray++Builtin.zeroCells z.cells (n+1 - i)++Builtin.zeroCells z.cells (a - (n+1))).toList.take (i*13)=b.toList.take (i*13):=by
  have B:Y (b.toList.take (i*13))=i*13:=by rw[bj,bf,u];omega
  simp only[BR,aO];rw[dW (by rw[B];exact aM _),cx (by rw[B];exact aM _)]
 generalize W:(b.toList.take (i*13)).toArray++Builtin.zeroCells z.cells (n+1 - i)++Builtin.zeroCells z.cells (a - (n+1))=ROW at r l C;have au:¬((i:Int)=(n:Int)):=by omega
 have av:(n:Int)<(n:Int)+1:=by omega
 have M9:IntKind.i64.wrap ((i:Int)+1)=(i:Int)+1:=by rw[IntKind.wrap_i64];omega
 have Ee:IntKind.i64.wrap ((n:Int)+1)=(n:Int)+1:=by rw[IntKind.wrap_i64];omega
 have af:IntKind.i64.wrap ((n:Int)+1 - (i:Int))=(n:Int)+1 - (i:Int):=by rw[IntKind.wrap_i64];omega
 have X2:(0:Int)<=(i:Int)+1:=by omega
 have HU:i<=n:=by omega
 have ap:((i:Int)+1).toNat=i+1:=by omega
 have aE:(i:Int)<=(n:Int):=by omega
 have a0:(i:Int)<=(n:Int)+1:=by omega
 have aK:a<=9223372036854775807:=by unfold maxLen at q;omega
 have am:¬(a=i):=by omega
 have an:¬(a=i+1):=by omega
 have a2:¬(n=i):=by omega
 have O:¬(w.heap.size=g):=by omega
 have a1:¬(w.heap.size=t):=by omega
 have x:(w.alloc (.cells ROW 57)).drew.heap[w.heap.size]?=S (.cells ROW 57 (0,0)):=heap_alloc_new w _;have J8:Nat.min 1 (n+1 - i)=1:=fP (by omega);have X:Nat.min (n - i) (n - i)=n - i:=fP (aM _);have A:∀f s,(Builtin.copy_ #[53,53] f #[.slice (S ⟨w.heap.size,i*13,Z⟩) (n+1 - i) s,.slice (S ⟨t,d,Z⟩) 1 K]).run κ (w.alloc (.cells ROW 57)).drew =
   .ok (goInt (Nat.min 1 (n+1 - i):Nat)) ((w.alloc (.cells ROW 57)).drew.setRow w.heap.size (ROW.toList.take (i*13)++c++ROW.toList.drop (i*13+Y c)).toArray):=λf s =>
  qQ _ _ _ f 57 w.heap.size (i*13) _ s ⟨t,d,Z⟩ _ K ROW 57 c 13 U P2 x (by rw[H,J8]) (λj v m=>by rw[Addr.add_lit];exact(World.cell?_alloc_past (w:=w) _ t (d+j) V).trans (GA j v m)) (by rw[H,l];omega) L;have ac:Y (ROW.toList.take (i*13)++c++ROW.toList.drop (i*13+Y c))=a*13:=by simp only[ah,bj,ca,bf,l,H];omega
 generalize I:(ROW.toList.take (i*13)++c++ROW.toList.drop (i*13+Y c)).toArray=RA at A;have F:RA.size=a*13:=by rw[<- I,fI,ac]
 have D:((w.alloc (.cells ROW 57)).drew.setRow w.heap.size RA).drew.heap[w.heap.size]?=S (.cells RA 57 (0,0)):=setRow_heap _ w.heap.size ROW RA 57 (0,0) x;have R:Y (b.toList.drop (i*13))=(n - i)*13:=by rw[ca,bf,u,zB]
 have ad:∀f s sc,(Builtin.copy_ #[53,53] f #[.slice (S ⟨w.heap.size,(i+1)*13,Z⟩) (n - i) s,.slice (S ⟨g,i*13,Z⟩) (n - i) sc]).run κ ((w.alloc (.cells ROW 57)).drew.setRow w.heap.size RA).drew = .ok (goInt (Nat.min (n - i) (n - i):Nat)) (((w.alloc (.cells ROW 57)).drew.setRow w.heap.size RA).drew.setRow w.heap.size (RA.toList.take ((i+1)*13)++b.toList.drop (i*13)++RA.toList.drop ((i+1)*13+Y (b.toList.drop (i*13)))).toArray):=λf s sc =>qQ _ _ _ f 57 w.heap.size ((i+1)*13) _ s ⟨g,i*13,Z⟩ _ sc RA 57 (b.toList.drop (i*13)) 13 U P2 D (by rw[R,X]) (λj v m=>by
   rw[Addr.add_lit];rw[ei]at m;have h0:(w.alloc (.cells ROW 57)).heap[g]?=S (.cells b 57 (0,0)):=by rw[Below.heap_alloc w _ g Q];exact M
   have h1:((w.alloc (.cells ROW 57)).drew.setRow w.heap.size RA).drew.heap[g]?=S (.cells b 57 (0,0)):=by simp only[World.setRow,World.drew,fk,aw O];exact h0
   simp only[World.cell?,h1];simpa using m) (by rw[R,F];omega) (λv hv=>N v (eO hv));clear TW p o W hG l;go_enter func226,Tryz.ntmps226;go_wp2_with (first
  |(at_builtin;refine Lib.wpList_append_run _ rfl _ _ _ _ rfl _ _ rfl rfl _ _ (r _) ?_)
  |(at_builtin;refine wpList_copy_runI _ rfl _ _ 53 53 rfl _ _ rfl rfl (A _ _) ?_));go_region_law_o (refine step_copy_runI rfl _ _ 53 53 rfl _ _ (by simp[Act.eval,Act.put]) (by simp[Act.eval,Act.put]) (ad _ _ _) ?_);go_wp2;go_ret;have eW:Y (b.toList.take (i*13))=i*13:=by rw[bj,bf,u];omega
 have e1:RA.toList=b.toList.take (i*13)++(c++ROW.toList.drop (i*13+Y c)):=by rw[<- I,<- C,aO]
 have e2:RA.toList.take ((i+1)*13)=b.toList.take (i*13)++c:=by
  have B:Y (b.toList.take (i*13)++c)=(i+1)*13:=by rw[ah,eW,H];omega
  rw[e1,<- List.append_assoc,dW (by rw[B];exact aM _),cx (by rw[B];exact aM _)]
 have EJ:Y (RA.toList.take ((i+1)*13)++b.toList.drop (i*13))=(n+1)*13:=by rw[e2,ah,ah,eW,H,R];omega
 refine⟨a,_,rfl,y,q,?_,?_,setRow_heap _ _ RA _ 57 (0,0) D,?_⟩;.rw[fI,<- List.append_assoc,ah,EJ,ca,bf,F];omega
 .show List.take ((n+1)*13) (RA.toList.take ((i+1)*13)++(b.toList.drop (i*13)++RA.toList.drop ((i+1)*13+(n - i)*13)))=_;rw[<- List.append_assoc,dW (by rw[EJ];exact aM _),cx (by rw[EJ];exact aM _),e2]
 refine⟨rfl,rfl,rfl,?_,λk hk _=>?_⟩;.simp only[World.setRow,World.drew,xp,World.alloc,Array.size_push];omega
 simp only[World.setRow,World.drew,fk,aw (show ¬w.heap.size=k by omega)];exact Below.heap_alloc w _ k hk
def Rp{w:bQ}{g:Mem}{c:fx}{r:aB}{a b:List Value}(h:nD w J g c n a)(F:Y a=Y c*n)(D:nD w J g [r] n b)(B:Y b=n)(m:Nat)(v:m<=Y c): nD w J g (c.take m++r::c.drop m) n (a.take (m*n)++b++a.drop (m*n)):=by
 have y:Y (a.take (m*n))=m*n:=by rw[bj,F];exact fP (cg _ v)
 have f:Y (c.take m)=m:=by rw[bj];exact fP v
 have C:nD w J g (c.take m) n (a.take (m*n)):=by
  refine⟨λq d=>h.1 q (dY d),λi j x e=>?_⟩;have t:i<m:=by obtain⟨q,d,_⟩:=ln e;have:=(ag.1 d).1;omega
  have k:gv c i j=S x:=by simp only[gv,fZ,aQ t]at e |-;exact e
  obtain⟨p,u,s,o⟩:=h.2 i j x k;have H:j<n:=by obtain⟨q,d,l⟩:=ln k;have:=h.1 q (aS d);have:=(ag.1 l).1;omega
  refine⟨p,u,?_,o⟩;have E:i*n+j<m*n:=by have:(i+1)*n<=m*n:=cg _ t;rw[dK,jL]at this;omega
  rw[fZ,aQ E];exact s
 have z:nD w J g (c.drop m) n (a.drop (m*n)):=by
  refine⟨λq d=>h.1 q (eO d),λi j x e=>?_⟩;have k:gv c (m+i) j=S x:=by simp only[gv,ei]at e |-;exact e
  obtain⟨p,u,s,o⟩:=h.2 _ j x k;refine⟨p,u,?_,o⟩;rw[ei,<- s,dK,bP]
 have A:=(C.append D (by rw[y,f])).append z (by rw[ah,ah,y,B,f,dK];simp);simpa using A
def Vd(m id h g g2:Nat)(ac:Bool)(hm:m<Y l)(hl:Y l<2^30)(J:aj)(Q:id≠h)(h1:J[id]?=S (.row 57 13 184 g G (l.map aV.azR)))(h2:J[h]?=S (.row 57 13 184 g2 ac [x.azR])): PC κ 226 [.own id g,.I m,.own h g2] J (λr J'=>r=.own id (g+1)/\J'=J.set id (.row 57 13 184 (g+1) G ((l.take m++x::l.drop m).map aV.azR))):=by
 refine PC.acp h1 λB w0 w μ vs D o=>?_;have M:=o.2 0 _ rfl;have a1:=(o.2 1 _ rfl).kK;have P:=o.2 2 _ rfl;have M:=M.nv h1;have P:=P.nv h2;obtain⟨_,d,O,eG⟩:=D.obj id _ h1;obtain⟨_,c,U,SZ⟩:=D.obj h _ h2;have e:vs=#[μ id,.int .i64 m,μ h]:=by obtain⟨q⟩:=vs;match q,o.1 with|[u,v,y],_=>simp at M a1 P;rw[M,a1,P]
 rw[e];have o1:=nD.one D eG O.1;have o2:=nD.one D SZ U.1;rcases O.2 with⟨_,V⟩|⟨s,n,f,T,hB,A,J7,CZ,t,F⟩;.rw[aa]at V;omega
 rcases U.2 with⟨_,V⟩|⟨L,p,C,E,ap,K,am,an,af,W⟩;.simp at V
 have qw:Y (l.map aV.azR)=Y l:=aa ..;rw[qw]at T J7 F O;have XV:L≠s:=λe=>Q (D.sep id h _ _ s h1 h2 (by simp) (by simp) (by rw[T];rfl) (by rw[E,e];rfl));have R:Y c=13:=by simpa using U.1
 have Na:Y d=Y l*13:=by rw[O.1]
 have GA:∀j v,c[j]?=S v->w.cell? ⟨L,0+j,Z⟩=S v:=by
  intro j v N;rw[<- W,fZ]at N;split at N;.simp only[World.cell?,K,aG];simpa using N
  cases N
 have ad:L<w.heap.size:=(cY.1 K).1;have i:Y ((l.take m++x::l.drop m).map aV.azR)=Y l+1:=by simp;omega
 have H:nD w J μ ((l.take m++x::l.drop m).map aV.azR) 13 (d.take (m*13)++c++d.drop (m*13)):=by have:=Rp (r:=x.azR) eG (by rw[qw];exact Na) SZ R m (by rw[qw];omega);simpa[gD,lY]using this
 have z:Y (d.take (m*13)++c++d.drop (m*13))=(Y l+1)*13:=by simp only[ah,bj,ca,Na,R];omega
 rw[T,E];by_cases xX:Y l+1<=n
 .refine(PY s l.length n m L 0 p f c w hm xX (by unfold maxLen at CZ;omega) XV A t R GA (λv o=>o1 v (F▸o)) o2 57 57 C.size f.size (by simp[World.shape?,K]) (by simp[World.shape?,A]) (by rw[t];omega) (by simp[World.frozen?,K]) (by simp[World.frozen?,K])).mono ?_;rintro e w' ⟨rfl,rfl⟩;refine⟨_,_,rfl,?_,λb X=>.inl X,?_,H⟩
  .refine⟨rfl,rfl,rfl,?_,λk hk Q=>?_⟩;.simp only[World.setRow,World.drew,xp];exact aM _
   have xf:¬s=k:=λe=>Q (by rw[e];rfl);simp only[World.setRow,World.drew,fk,aw xf]
  rw[i];have e1:f.toList.take (m*13)=d.take (m*13):=by rw[<- F,oK,fP (by omega)]
  have e2:(M5 f l.length m c).toList=(d.take (m*13)++c++d.drop (m*13))++f.toList.drop ((Y l+1)*13):=by rw[M5,F,e1]
  refine⟨z,.inr ⟨s,n,_,rfl,hB,setRow_heap w.drew s f _ 57 (0,0) A,xX,CZ,?_,?_⟩⟩;.have e3:(M5 f l.length m c).size=Y (M5 f l.length m c).toList:=bf.symm;rw[e3,e2,ah,z,ca,(show Y f.toList=n*13 from by rw[bf,t])];omega
  rw[e2,dW (by rw[z];exact aM _),cx (by rw[z];exact aM _)]
 have pU:n=Y l:=by omega
 subst pU;have iT:f.toList=d:=by rw[<- F,cx (by rw[bf,t];exact aM _)]
 refine(SN s l.length m L 0 p f c w hm (by omega) A t R GA (λv o=>o1 v (iT▸o)) o2 ad).mono ?_;rintro e w' ⟨a,row,rfl,q1,q2,q3,q4,q5,q6⟩;refine⟨_,_,rfl,?_,λb X=>.inr ?_,?_,H⟩;.obtain⟨p1,p2,p3,p4,p5⟩:=q6;exact⟨p1,p2,p3,p4,λk hk Q=>p5 k hk (by simp)⟩
 .simp only[nQ,ab]at X;omega
 rw[i];refine⟨z,.inr ⟨w.heap.size,a,row,rfl,by have:=(cY.1 A).1;omega,q5,q1,q2,q3,?_⟩⟩;rw[q4,iT]
def Ve(id a g c:Nat)(b:Bool)(j:Y l<2^30)(J:aj)(h1:J[id]?=S (.row 57 13 184 g G (l.map aV.azR)))(e:J[a]?=S (.row 57 13 184 c b [x.azR])): PC κ 226 [.own id g,.I (Y l),.own a c] J (λr d=>r=.own id (g+1)/\d=J.set id (.row 57 13 184 (g+1) G ((l++[x]).map aV.azR))):=by refine aW func226 aoM.2 λi f=>aq ?_;simp only[aoM,SS,seval];simp only[h1,e,aa,VV,Int.reduceBEq,Int.reduceBNe,Nat.reduceAdd,Nat.reduceSub,Nat.reduceLeDiff,Nat.reduceEqDiff,Int.reduceToNat,reduceIte,reduceCtorEq];refine⟨⟨by omega,by omega⟩,λh=>by simp at h,λ_=>⟨⟨by omega,by unfold maxLen;omega⟩,?_⟩⟩;exact dS (.inr rfl) rfl (Wk.refl _ _) rfl ⟨rfl,by simp⟩
def ZE(m id a g c:Nat)(b:Bool)(f:m<=Y l)(e:Y l<2^30)(J:aj)(j:id≠a)(h1:J[id]?=S (.row 57 13 184 g G (l.map aV.azR)))(d:J[a]?=S (.row 57 13 184 c b [x.azR])): PC κ 226 [.own id g,.I m,.own a c] J (λr i=>r=.own id (g+1)/\i=J.set id (.row 57 13 184 (g+1) G ((l.take m++x::l.drop m).map aV.azR))):=by
 rcases Nat.lt_or_eq_of_le f with h|rfl;.exact Vd l x m id a g c b h e J j h1 d
 have:=Ve l x id a g c b e J h1 d;rwa [List.take_length,tW]
def Y0(a b id g:Nat)(l:List aV)(x:aV)(f:R[a]?=S (.box 53 [.own id g]))(c:R[id]?=S (.row 57 13 184 g G (l.map aV.azR)))(e:R[b]?=S (.box 57 x.azR))(k:Nat)(y:aV)(d:l[k]?=S y): bh κ 224 [.I k,.ptr a 0,.ptr b 0] R (.b (decide (0<=dH y x))):=by
 refine aW func224 afW.2 λj i=>aq ?_;have m:k<Y l:=(ag.1 d).1;have h:(l.map aV.azR).getD k []=y.azR:=by simp[aA,d]
 simp only[afW,SS,seval];simp only[f,e,c,h,aa,VV,seval];refine⟨⟨by omega,by omega⟩,by rw[ov];exact aM _,by rw[ov];exact aM _,?_⟩;refine al (D1 y x _) (by simp only[vW,VV,seval]) ?_;simp only[VV,seval];exact bK (.inr rfl) rfl ⟨rfl,rfl⟩
def YZ(m id g:Nat)(A:Y l<2^39)(s:m<=Y l)(h1:∀(k:Nat) (y:aV),l[k]?=S y->(0<=dH y x<->m<=k))(J:aj)(d:J[id]?=S (.row 57 13 184 g G (l.map aV.azR))):
  bh κ 169 [.own id g,.agg x.azR] J (.jg [.I m,.b (match l[m]? with|some y=>dH y x==0|none=>G)]):=by
 refine aW func169 af0.2 λo w=>aq ?_;have t:id<Y J:=(ag.1 d).1;have a:∀i:aj,(J++i)[id]?=S (.row 57 13 184 g G (l.map aV.azR)):=λi=>by rw[bg t];exact d
 simp only[af0,SS,seval];simp only[aV.azR,cL.azR,En.azR,aa,d,a,VV,seval];refine al (Mn 224 [.ptr J.length 0,.ptr (Y J+1) 0] l.length m (by omega) s (by kernel_rfl) (λk q=>?_)) rfl ?_;.obtain⟨y,e⟩:∃y,l[k]?=S y:=⟨_,aD q⟩;refine(Y0 _ J.length (Y J+1) id g l x (by simp only[aV.azR,cL.azR,En.azR,VV,seval]) (a _) (by simp only[aV.azR,cL.azR,En.azR,VV,seval]) k y e).mono ?_;rintro r z ⟨rfl,rfl⟩;refine⟨?_,rfl⟩;simp only[decide_eq_decide.2 (h1 k y e)]
 simp only[aa,a,VV,seval];have p:((decide ((m:Int)<(Y l:Int))==θ)=θ)<->m<Y l:=by simp
 cases e:l[m]? with
 |some y =>
  have j:m<Y l:=(ag.1 e).1;have n:(l.map aV.azR).getD m []=y.azR:=by simp[aA,e]
  have f:decide ((m:Int)<(Y l:Int))=θ:=by simp;omega
  refine⟨λ_=>⟨by omega,by omega⟩,.agg y.azR,λ_=>⟨by rw[n,vW],by rw[n,ov];exact aM _⟩,?_⟩;refine bV (c:=θ) (by simp only[f,VV,seval]<;>rfl) (λ_=>D1 y x _) (by simp only[aV.azR,cL.azR,En.azR,VV,seval]) ?_;simp only[f,VV,seval];exact bA o (.inr rfl) (by simp only[RS,seval];rfl) (by simp[LW]) ⟨rfl,rfl⟩
 |none =>
 have j:¬m<Y l:=by simpa using e
 have f:decide ((m:Int)<(Y l:Int))=G:=by simp;omega
 refine⟨λh=>absurd (p.1 h) j,.u,λh=>absurd (p.1 h) j,?_⟩;refine bV (c:=G) (v:=.I 0) (by simp only[f,VV,seval]<;>rfl) (λh=>by simp at h) rfl ?_;simp only[f,VV,seval];exact bA o (.inr rfl) (by simp only[RS,seval];rfl) (by simp[LW]) ⟨rfl,rfl⟩
def Fe(b:o.azU)(d:x.azU)(g:fc x=0)(h:Y (dJ x)<=60000)(e:Y o.log<=4000000)(c:m<=Y o.azS)(h1:∀(k:Nat) (y:aV),o.azS[k]?=S y->(0<=dH y x<->m<=k))(J:aj): bh κ 170 [.agg o.azR,.agg x.azR] J (.jg [.agg (ku o x m).azR,.I 0]):=by
 refine aW func170 apo.2 λf i=>aq ?_;have a:=b.len;simp only[apo,SS,seval];simp only[bO.azR,aV.azR,cL.azR,En.azR,VV,seval];refine al (BH x d _) (by simp only[aV.azR,cL.azR,En.azR,VV,seval]) ?_;simp only[Ky g,VV,seval];refine al (Vc o.log (dJ x) (by omega) (by omega) _) rfl ?_;simp only[V2 h e,VV,seval];refine al (zJ o b _) (by simp only[bO.azR,VV,seval]) ?_;simp only[uf,VV,seval];refine al (YZ o.azS x m (Y J+3) 0 (by omega) c h1 _ (by simp only[VV,seval])) (by simp only[aV.azR,cL.azR,En.azR,VV,seval]) ?_;simp only[VV,seval];refine al (sK x d _) (by simp only[aV.azR,cL.azR,En.azR,VV,seval]) ?_;simp only[aV.azR,cL.azR,En.azR,VV,seval];refine al (ZE o.azS x m (Y J+3) (Y J+5) 0 0 G c a _ (by omega) (by simp only[VV,seval]) (by simp only[aV.azR,cL.azR,En.azR,VV,seval])) rfl ?_;simp only[VV,seval];refine iw 3 f (.inr rfl) (by simp only[RS,seval];rfl) rfl ?_ ?_;.simp only[aI,ar,Pm.fz,kE,cG,aU,LW]
 simp only[aI,ar,Pm.fz,kE,cG,aU,ku];exact⟨rfl,trivial⟩
def Ay(e:En)(a:bU):aV:=⟨⟨o.az5+1,o.azW,ox a o.azW+1⟩,1,e,a⟩
def rR:bO:={ ku o x m with aAe:=Y (ku o x m).log }
def op0:rk [.I 0,.I 0,.I 0,.I 0,.nil,.nil,.s [],.s [],.s [],.s [],.I 0,.I 0,.nil] nG.azR:=by simp only[aV.azR,cL.azR,En.azR,nG,ar,aF,ay];repeat first|exact .nil|refine .cons (.refl _) ?_|refine .cons (.nil _) ?_
def Wh(o:Int):0<=ox v o:=by unfold ox;(repeat' split)<;>omega
def agj(e:En)(v:e.azU)(d:o.azU)(l:o.down=G)(c:Nat->Nat)(t:s9 o.azS c)(a:bU)(j:u9 (ly c) []=a)(z:ox a o.azW<128)(h0:0<=o.az5)(g:o.az5<2^30)(m:Nat) (b:(Ay o e a).azU) (q:fc (Ay o e a)=0) (u:Y (dJ (Ay o e a))<=60000) (r:Y o.log<=4000000) (s:m<=Y o.azS) (h1:∀(k:Nat) (y:aV),o.azS[k]?=S y->(0<=dH y (Ay o e a)<->m<=k)) (J:aj) : bh κ 150 [.agg o.azR,.I 1,.agg e.azR] J (.jg [.agg (rR o (Ay o e a) m).azR,.agg (Ay o e a).azR,.I 0]):=by
 refine aW func150 af1.2 λg w=>aq ?_;have x:=Wh a o.azW;have p:IntKind.i64.wrap (o.az5+1)=o.az5+1:=IntWalk.i64_in _ (by omega);have n:IntKind.i64.wrap (ox a o.azW+1)=ox a o.azW+1:=IntWalk.i64_in _ (by omega);have i:(decide (128<=ox a o.azW)||decide (1073741824<=o.az5))=G:=by simp;omega
 have f:Y (ku o (Ay o e a) m).log<2^40:=by simp only[ku,ah,kq];omega
 simp only[af1,SS,seval];simp only[bO.azR,En.azR,VV,seval];refine al (N4 o d l c t _) (by simp only[bO.azR,VV,seval]) ?_;simp only[j,VV,seval];refine al (sL a o.azW _) rfl ?_;simp only[p,n,VV,seval];refine⟨λh=>(by rw[i]at h;cases h),λ_=>?_⟩;refine al (Fe o (Ay o e a) m d b q u r s h1 _) (by simp only[bO.azR,aV.azR,cL.azR,En.azR,Ay,VV,seval]) ?_;simp only[bO.azR,VV,seval];refine al (sK (Ay o e a) b _) (by simp only[aV.azR,cL.azR,En.azR,Ay,VV,seval]) ?_;simp only[aV.azR,cL.azR,En.azR,bM,VV,seval];refine bA g (.inr rfl) (by simp only[RS,seval];rfl) (by simp[LW]) ⟨rfl,rfl⟩
def KI(e:En)(f:e.azU)(d:dx e=0)(j:o.azU)(b:o.down=G)(c:Nat->Nat)(q:s9 o.azS c)(a:bU)(g:u9 (ly c) []=a)(t:ox a o.azW<128)(h0:0<=o.az5)(n:o.az5<2^30)(m:Nat) (i:(Ay o e a).azU) (h:fc (Ay o e a)=0) (s:Y (dJ (Ay o e a))<=60000) (l:Y o.log<=4000000) (p:m<=Y o.azS) (h1:∀(k:Nat) (y:aV),o.azS[k]?=S y->(0<=dH y (Ay o e a)<->m<=k)) (J:aj) : bh κ 96 [.agg o.azR,.agg e.azR] J (.jg [.agg (rR o (Ay o e a) m).azR,.agg (Ay o e a).azR,.I 0]):=by refine aW func96 p96.2 λr u=>aq ?_;simp only[p96,SS,seval];simp only[bO.azR,En.azR,b,VV,seval];refine al (lQ e f _) (by simp only[En.azR,VV,seval]) ?_;simp only[d,VV,seval];refine al (agj o e f j b c q a g t h0 n m i h s l p h1 _) (by simp only[bO.azR,En.azR,b,VV,seval]) ?_;simp only[bO.azR,aV.azR,cL.azR,En.azR,VV,seval];exact bA r (.inr rfl) (by simp only[RS,seval];rfl) (by simp[LW]) ⟨rfl,rfl⟩
def ab7(e:Y l<2^39)(c:m<=Y l)(h1:∀(k:Nat) (y:aV),l[k]?=S y->(0<=dH y x<->m<=k))(d:∀y,l[m]?=S y->dH y x≠0)(J:aj): bh κ 169 [.sl 13 (l.map aV.azR),.agg x.azR] J (.jg [.I m,.b G]) :=(MQ l x m e c h1 J).mono λr g ⟨h,a⟩=>⟨by rw[h];cases f:l[m]? with|none=>rfl|some y=>simp[d y f],a⟩
def IE(b:o.azU)(i:x.azU)(e:o.down=G)(g:fc x=0)(q:(dJ x).length<=60000)(j:o.log.length<=4000000)(f:m<=o.azS.length)(h1:∀(k:Nat) (y:aV),o.azS[k]?=some y->(0<=dH y x<->m<=k)) (l:∀y,o.azS[m]?=some y->dH y x≠0) (n:x.aY.bS≠o.azW) (J:aj) : bh κ 116 [.agg o.azR,.agg x.azR] J (.jg [.agg (ku o x m).azR,.I 0]):=by
 refine aW func116 Y4.2 λp r=>aq ?_;have d:=b.len;have a:(x.aY.bS==o.azW)=G:=by simpa using n
 simp only[Y4,SS,seval];simp only[bO.azR,aV.azR,cL.azR,En.azR,e,VV,seval];refine al (th x i _) (by simp only[aV.azR,cL.azR,En.azR,VV,seval]) ?_;simp only[g,VV,seval];refine al (ab7 o.azS x m (by omega) f h1 l _) (by simp only[aV.azR,cL.azR,En.azR,VV,seval]) ?_;simp only[VV,seval];refine⟨λh=>by simp at h,.u,λh=>by simp at h,?_⟩;refine bV (c:=G) (v:=.I 0) (by simp only[VV,seval]<;>rfl) (λh=>by simp at h) rfl ?_;simp only[a,VV,seval];refine al (Fe o x m b i g q j f h1 _) (by simp only[bO.azR,aV.azR,cL.azR,En.azR,e,VV,seval]) ?_;simp only[bO.azR,VV,seval];exact bA p (.inr rfl) (by simp only[RS,seval];rfl) (by simp[LW]) ⟨rfl,rfl⟩
def Fj(a:o.azU)(d:o.down=G)(J:aj):bh κ 67 [.agg o.azR] J (.sl 8 ((dw o.azS).map En.azR)):=by refine aW func67 p67.2 λc e=>aq ?_;have b:=a.len;simp only[p67,SS,seval];simp only[bO.azR,d,VV,seval];refine al (Sm o.azS a.azS _) rfl ?_;simp only[VV,seval];exact gm c (by rfl) (by simp[LW])
def vl(b:o.azU)(J:aj):bh κ 30 [.agg o.azR] J (.sl 8 ((dw o.azS).map En.azR)):=by refine aW func30 p30.2 λa c=>aq ?_;simp only[p30,SS,seval];simp only[bO.azR,VV,seval];refine al (vo o.azS b.azS _) rfl ?_;simp only[VV,seval];exact gm a (by rfl) (by simp[LW])
def acg:l.map aV.azR++[[.I x.aY.time,.I x.aY.bS,.I x.aY.azW,.I x.azT,.sl 3 (x.azV.azZ.map It.azR),.sl 3 (x.azV.az0.map It.azR),.s x.azV.cM,.s x.azV.next,.s x.azV.eu,.s x.azV.dC,.I x.azV.aAb,.I x.azV.aAc,.sl 1 (x.az1.map cN)]]=(l++[x]).map aV.azR:=by simp[aV.azR,cL.azR,En.azR]
def akn(m:bT J)(l:List aV)(r:∀x∈l,x.azU)(o:l.length<2^39)(v:bU):∀(a c b:List aV) (g:Nat),l=c++a->b.length<=c.length ->(∀g,((fj 1 (fh (.sl 1 (v.map cN)) (fj 3 (fh (.own J.length g) (fj 23 fo))))) λp=>K (.exit 0) ⟨p,J++[gl g G (b++lW a v)]⟩)) ->gw J.length κ W4 K (a.length+1) ⟨(uu 1 (.sl 1 (v.map cN)::uu 3 (.own J.length g::uu 5 (.sl 13 (l.map aV.azR)::.I l.length::.I c.length::uu 15 [])))),J++[gl g G b]⟩:=by
 intro a;induction a with
 |nil =>intro c b g d t f;have d:=dL d;subst d;simp only[lW,u7,bI]at f;refine az λR k=>?_;simp only[W4,VV,seval];exact⟨λh=>by simp at h,λ_=>f g ..⟩
 |cons x a ih =>
 intro c b g d t f;have y:=gY d;have q:x.azU:=r x (by rw[d];simp);have n:=dD c x (by omega);have s:(List.map aV.azR l).getD c.length []=x.azR:=by rw[d];exact dR
 have u:decide ((c.length:Int)<(l.length:Int))=θ:=by simp;omega
 have i:=aaj v x.aY;have j:=sK x q;simp only[aV.azR,cL.azR,En.azR,aF,ay]at i j;refine az λR k=>?_;simp only[W4,gl,ak,s,u,aa,aV.azR,cL.azR,En.azR,V.pure,VV,seval];refine⟨⟨by omega,by omega⟩,?_⟩;refine al (i _) rfl ?_;simp only[n,VV,seval];have w:(b.length+1)*184<=2^47/\b.length+1<=maxLen:=by simp only[maxLen];omega
 refine⟨λh=>?_,λh=>?_⟩
 .have e:lW (x::a) v=x::lW a v:=qb (by simpa using h);rw[e]at f;refine al (j _) rfl ?_;simp only[aa,n,V.pure,VV,seval];refine⟨by simpa using w,?_⟩;rw[acg];refine k _ (cn [gl (g+1) G (b++[x])] [_] (cj m (by simp[gl])) ?_ ?_ (ih (c++[x]) (b++[x]) (g+1) (by rw[d];simp) (by simp;omega) (by simpa using f)));.repeat' constructor
  simp only[LW,ae,ai,aG];omega
 have e:lW (x::a) v=lW a v:=qc (by simpa using h);rw[e]at f;refine k _ (cn [gl g G b] [_] (cj m (by simp[gl])) ?_ ?_ (ih (c++[x]) b g (by rw[d];simp) (by simp;omega) f));.repeat' constructor
 simp only[LW,ae,ai,aG];omega
def ac1(c:o.azU)(f:o.down=G)(v:bU)(J:aj):bh κ 86 [.agg o.azR,.sl 1 (v.map cN)] J (.sl 13 ((lW o.azS v).map aV.azR)):=by
 refine aW func86 p86.2 λb h=>?_;have d:=c.len;simp only[p86,SS,seval];refine cB.cut λR a=>?_;simp only[bO.azR,f,VV,seval];refine a _ ?_;clear a R;refine cB.cut λR a=>?_;simp only[VV,seval];refine a _ ?_;clear a R;refine cB.cut λR a=>?_;simp only[VV,seval];refine a _ (aq ?_);clear a R;simp only[aa,VV,seval];have e:jt J.length (uu 1 (.sl 1 (v.map cN)::uu 3 (.nil::uu 5 (.sl 13 (o.azS.map aV.azR)::.I (Y o.azS)::.I (Y ([]:List aV):Nat)::uu 15 [])))):=by simp only[LW]
 refine cB.wk ((((Wk.fw (ys:=(uu 1 (.sl 1 (v.map cN)::uu 3 (.nil::uu 5 (.sl 13 (o.azS.map aV.azR)::.I (Y o.azS)::.I (Y ([]:List aV):Nat)::uu 15 []))))) (by repeat' constructor)).trans (Wk.lS (aM _) b (ed.1 e))).trans (Wk.k9 (P:=κ) (k:=5) NT rfl)).trans (Wk.fw (ys:=(uu 1 (.sl 1 (v.map cN)::uu 3 (.own J.length 0::uu 5 (.sl 13 (o.azS.map aV.azR)::.I (Y o.azS)::.I (Y ([]:List aV):Nat)::uu 15 []))))) ?_)) (cB.kT (Y o.azS+1) (akn b o.azS c.azS (by omega) v o.azS [] [] 0 rfl (aM _) ?_));.simp only[VV,seval];repeat' constructor
 intro g;simp only[JE];intros;simp only[gl,ay,VV,seval];refine iw 0 b (.inr rfl) (by simp only[RS,seval];rfl) rfl ?_ ?_;.simp only[aI,ar,cu,Pm.fz,kE,cG,aU,LW]
 simp only[aI,ar,cu,Pm.fz,kE,cG,aU];exact⟨rfl,trivial⟩
end Go.Proofs.Tryz
