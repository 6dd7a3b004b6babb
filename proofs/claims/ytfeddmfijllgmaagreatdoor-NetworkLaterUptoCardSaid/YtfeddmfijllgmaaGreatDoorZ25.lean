/- Part of a proof. -/
import Derived.Test.YtfeddmfijllgmaaGreatDoorZ24
set_option linter.all false
set_option maxHeartbeats 4000000
open Option renaming some->S,none->Y
open Bool renaming true->G,false->Z
open Go.Proofs.Tryz renaming prog->A
open List renaming length->X
namespace Go.Proofs.Tryz
open Go Go.Pm Go.Bt Go.RowKit
variable(l:List bf)(m:Nat)(R:Array Value)(o:bX)(M:ai)(P:Net)(i:Int)(j:Int)(x:bf)(c:Nat->Nat)(H:Let)(v:bH){f:Int}{N:List bf}{k B y:Nat}{E F D t:Ob}{U:ai}{q:ar}{Q:bG}
def M9:(prog.info? 57).map (·.size)=S 13:=by kernel_rfl
def Ka(n i:Nat)(a:List Value):Array Value :=((R.toList.take (i*13)++a++(R.toList.take (n*13)).drop (i*13))++R.toList.drop ((n+1)*13)).toArray
set_option maxRecDepth 100000 in
def M7(n c i f d l:Nat)(a:Array Value)(b:List Value)(w:bF)(hi:i<n)(uK:n+1<=c)(af:c<=9223372036854775807)(U:f≠m) (s:w.heap[m]?=S (.cells a 57 (0,0))) (o:a.size=c*13) (M:X b=13) (Du:∀j v,b[j]?=S v->w.cell? ⟨f,d+j,Y⟩=S v) (E:∀v∈a.toList.take (n*13),v.oneCell'=G) (t:∀v∈b,v.oneCell'=G) (O Q:TypeId) (K L:Nat) (y:w.shape? f=S (O,K)) (z:w.shape? m=S (Q,L)) (x:L≠0) (Dz:w.frozen? ⟨f,d,Y⟩=Z) (H:w.frozen? ⟨f,K,Y⟩=Z) : Calls A 226 #[.slice (S ⟨m,0,Y⟩) n c,.int .i64 i,.slice (S ⟨f,d,Y⟩) 1 l] w λe V =>e=.returned (.slice (S ⟨m,0,Y⟩) (n+1) c)/\V=w.drew.setRow m (Ka a n i b):=by
 have u:∀I D,(callFunc 257 #[.slice (S ⟨f,d,Y⟩) 1 l,.slice (S ⟨m,(i+1)*13,Y⟩) I D]).run A w=.ok (.value (.bool Z)) w:=λI D=>by
  rw[run_callFunc_extern func257 (by kernel_rfl) (by kernel_rfl) (by kernel_rfl) (e:=Extern.SlicesOverlaps.overlaps #[53,53] #[4]) (by kernel_rfl),
   Lib.run_overlaps_apart w 53 4 57 underlying53 13 (λw=>Tryz.sizeOf57 w) ⟨f,d,Y⟩ ⟨m,(i+1)*13,Y⟩ 1 l I D U O Q K L y z x Dz H];rfl
 have Nd:IntKind.i64.wrap ((i:Int)+1)=(i:Int)+1:=by rw[IntKind.wrap_i64];omega
 have Dt:IntKind.i64.wrap ((n:Int)+1)=(n:Int)+1:=by rw[IntKind.wrap_i64];omega
 have ac:¬((i:Int)=(n:Int)):=by omega
 have VB:(0:Int)<=(i:Int)+1:=by omega
 have EM:i<=n:=by omega
 have YB:((i:Int)+1).toNat=i+1:=by omega
 have ap:((n:Int)+1).toNat=n+1:=by omega
 have qo:¬(c=i+1):=by omega
 have am:(i:Int)<=(n:Int)+1:=by omega
 have ad:¬(c=i):=by omega
 have P:=underlying53;have p:X ((a.toList.take (n*13)).drop (i*13))=(n - i)*13:=by rw[bN,aX,aU,o,wa];have:n*13<=c*13:=bS _ (by omega);omega
 generalize q:(a.toList.take (n*13)).drop (i*13)=cs at p;have W:∀j v,cs[j]?=S v->(w.drew).cell? ((⟨m,i*13,Y⟩:Addr).add j)=S v:=by
  intro j v k;rw[<- q,dE,ft]at k;split at k;.rw[Addr.add_lit];simp only[World.cell?,show w.drew.heap[m]?=S (.cells a 57 (0,0))from s];simpa using k
  cases k
 have mixed:prog.follows Departure.mixedOrders=G:=by kernel_rfl
 have SN:Nat.min (n+1 - i) (n - i)=n - i:=Nat.min_eq_right (by omega);have B:∀h g sc,(Builtin.copy_ #[53,53] h #[.slice (S ⟨m,(i+1)*13,Y⟩) (n - i) g,.slice (S ⟨m,i*13,Y⟩) (n+1 - i) sc]).run A w.drew=.ok (goInt (Nat.min (n+1 - i) (n - i):Nat)) (w.drew.setRow m (a.toList.take ((i+1)*13)++cs++a.toList.drop ((i+1)*13+X cs)).toArray):=λh g sc =>
  oJ w.drew _ _ h 57 m ((i+1)*13) _ g ⟨m,i*13,Y⟩ _ sc a 57 cs 13 P M9 s (by rw[p,SN]) W (by rw[p,o];omega)
   (λv hv=>E v (dR (q▸hv)));generalize R:(a.toList.take ((i+1)*13)++(cs++a.toList.drop ((i+1)*13+(n - i)*13))).toArray=cur1;have F:cur1.size=c*13:=by rw[<- R];simp only[fa,ae,aX,bN,aU,p,o];omega
 have C:(w.drew.setRow m cur1).heap[m]?=S (.cells cur1 57 (0,0)):=setRow_heap w.drew m a cur1 57 (0,0) s;have Hb:Nat.min 1 (n+1 - i)=1:=fi (by omega);have r:∀h g,(Builtin.copy_ #[53,53] h #[.slice (S ⟨m,i*13,Y⟩) (n+1 - i) g,.slice (S ⟨f,d,Y⟩) 1 l]).run A (w.drew.setRow m cur1)=.ok (goInt (Nat.min 1 (n+1 - i):Nat)) ((w.drew.setRow m cur1).setRow m (cur1.toList.take (i*13)++b++cur1.toList.drop (i*13+X b)).toArray):=λh g =>
  oJ _ _ _ h 57 m (i*13) _ g ⟨f,d,Y⟩ _ l cur1 57 b 13 P M9 C (by rw[M,Hb]) (λj v k=>by rw[Addr.add_lit];have N:=Du j v k;simp only[World.cell?,World.setRow,eu,ao (BM U)]at N |-;exact N) (by rw[M,F];omega) t;go_enter func226,Tryz.ntmps226;go_wp2_with (simp only[u]);go_region_law_o (refine step_copy_runI rfl _ _ 53 53 rfl _ _ (by simp[Act.eval,Act.put]) (by simp[Act.eval,Act.put]) (B _ _ _) ?_);go_wp2_with (at_builtin;refine wpList_copy_runI _ rfl _ _ 53 53 rfl _ _ rfl rfl (r _ _) ?_);go_ret;refine⟨rfl,?_⟩;rw[setRow_setRow];have J:X ((a.toList.take ((i+1)*13)))=(i+1)*13:=by rw[aX,aU,o];omega
 have T:cur1.toList=a.toList.take ((i+1)*13)++(cs++a.toList.drop ((i+1)*13+(n - i)*13)):=by rw[<- R]
 have e2:cur1.toList.take (i*13)=a.toList.take (i*13):=by rw[T,dI (by rw[J];omega),mL,fi (by omega)]
 have e3:cur1.toList.drop (i*13+13)=cs++a.toList.drop ((n+1)*13):=by rw[T,ot (by rw[J];omega),oH (by rw[J];omega),aw];congr 2;omega
 rw[e2,e3,Ka,q];simp only[aJ]
set_option maxRecDepth 100000 in
def PZ(g n i q d vc:Nat)(b:Array Value)(c:List Value)(w:bF)(hi:i<n)(a3:n<=2^30) (R:w.heap[g]?=S (.cells b 57 (0,0))) (y:b.size=n*13) (D:X c=13) (Du:∀j v,c[j]?=S v->w.cell? ⟨q,d+j,Y⟩=S v) (M:∀v∈b.toList,v.oneCell'=G) (U:∀v∈c,v.oneCell'=G) (Q:q<w.heap.size) : Calls A 226 #[.slice (S ⟨g,0,Y⟩) n n,.int .i64 i,.slice (S ⟨q,d,Y⟩) 1 vc] w λe w' =>∃(a:Nat) (row:Array Value),e=.returned (.slice (S ⟨w.heap.size,0,Y⟩) (n+1) a)/\n+1<=a/\a<=maxLen/\row.size=a*13 /\row.toList.take ((n+1)*13)=b.toList.take (i*13)++c++b.toList.drop (i*13)/\w'.heap[w.heap.size]?=S (.cells row 57 (0,0))/\w.grownBy w' Y:=by
 obtain⟨i0,z,XE,P,V,F,pD⟩:=ql (T:=57) (n:=13) (by':=184) (by kernel_rfl);have W:=underlying53;have hI:=underlying3;have mixed:prog.follows Departure.mixedOrders=G:=by kernel_rfl
 have K:g<w.heap.size:=(cB.1 R).1;have o:(Builtin.firstCells i0.size i (.slice (S ⟨g,0,Y⟩) i n)).run A w.drew=.ok (b.toList.take (i*13)).toArray w.drew:=by
  rw[V];exact run_firstCells_some w.drew 13 i ⟨g,0,Y⟩ i n (b.toList.take (i*13)) (by rw[aX,aU,y];omega) (λj v m=>by
   rw[Addr.add_lit];rw[ft]at m;split at m;.simp only[World.cell?,show w.drew.heap[g]?=S (.cells b 57 (0,0))from R];simpa using m
   cases m)
 have t:i+(n+1 - i)=n+1:=by omega
 have Q9:(n:Int)+1 - (i:Int)=((n+1 - i:Nat):Int):=by omega
 have r:∀f,(Builtin.append_ #[53,3] f #[.slice (S ⟨g,0,Y⟩) i n,.int .i64 ((n:Int)+1 - (i:Int))]).run A w =
   .ok (.slice (S ⟨w.heap.size,0,Y⟩) (n+1) (grownCap w (n+1) n 57)) (w.drew.alloc (.cells ((b.toList.take (i*13)).toArray++Builtin.zeroCells z.cells (n+1 - i)++Builtin.zeroCells z.cells (grownCap w (n+1) n 57 - (n+1))) 57)):=λf=>by have h:=Lib.run_append_grow_zeros w 53 3 f 57 i0 z .i64 .i64 W hI XE P (S ⟨g,0,Y⟩) i n (b.toList.take (i*13)) o (n+1 - i) (by omega) (by omega) (by omega) (by omega) (by rw[F];omega) (by rw[F,t];exact growslice_fits (by omega) (by omega));rw[t]at h;rw[Q9];exact h
 have I:n+1<=grownCap w (n+1) n 57:=grownCap_ge w _ _ _;have s:grownCap w (n+1) n 57<=maxLen:=grownCap_le_maxLen w _ _ _ (by unfold maxLen;omega);generalize hG:grownCap w (n+1) n 57=a at r I s;have SI:∀k,(Builtin.zeroCells z.cells k).size=k*13:=λk=>by simp[Builtin.zeroCells,pD]
 have l:((b.toList.take (i*13)).toArray++Builtin.zeroCells z.cells (n+1 - i)++Builtin.zeroCells z.cells (a - (n+1))).size=a*13:=by rw[jG,jG,SI,SI,fa,aX,aU,y];omega
 have E:((b.toList.take (i*13)).toArray++Builtin.zeroCells z.cells (n+1 - i)++Builtin.zeroCells z.cells (a - (n+1))).toList.take (i*13)=b.toList.take (i*13):=by
  have B:X (b.toList.take (i*13))=i*13:=by rw[aX,aU,y];omega
  simp only[yF,aJ];rw[dI (by rw[B];exact aB _),cc (by rw[B];exact aB _)]
 generalize ad:(b.toList.take (i*13)).toArray++Builtin.zeroCells z.cells (n+1 - i)++Builtin.zeroCells z.cells (a - (n+1))=ROW at r l E;have ap:¬((i:Int)=(n:Int)):=by omega
 have au:(n:Int)<(n:Int)+1:=by omega
 have Nd:IntKind.i64.wrap ((i:Int)+1)=(i:Int)+1:=by rw[IntKind.wrap_i64];omega
 have Dt:IntKind.i64.wrap ((n:Int)+1)=(n:Int)+1:=by rw[IntKind.wrap_i64];omega
 have am:IntKind.i64.wrap ((n:Int)+1 - (i:Int))=(n:Int)+1 - (i:Int):=by rw[IntKind.wrap_i64];omega
 have VB:(0:Int)<=(i:Int)+1:=by omega
 have EM:i<=n:=by omega
 have YB:((i:Int)+1).toNat=i+1:=by omega
 have a4:(i:Int)<=(n:Int):=by omega
 have aM:(i:Int)<=(n:Int)+1:=by omega
 have aE:a<=9223372036854775807:=by unfold maxLen at s;omega
 have av:¬(a=i):=by omega
 have a0:¬(a=i+1):=by omega
 have a2:¬(n=i):=by omega
 have L:¬(w.heap.size=g):=by omega
 have a1:¬(w.heap.size=q):=by omega
 have u:(w.alloc (.cells ROW 57)).drew.heap[w.heap.size]?=S (.cells ROW 57 (0,0)):=heap_alloc_new w _;have Hb:Nat.min 1 (n+1 - i)=1:=fi (by omega);have ac:Nat.min (n - i) (n - i)=n - i:=fi (aB _);have C:∀f p,(Builtin.copy_ #[53,53] f #[.slice (S ⟨w.heap.size,i*13,Y⟩) (n+1 - i) p,.slice (S ⟨q,d,Y⟩) 1 vc]).run A (w.alloc (.cells ROW 57)).drew =
   .ok (goInt (Nat.min 1 (n+1 - i):Nat)) ((w.alloc (.cells ROW 57)).drew.setRow w.heap.size (ROW.toList.take (i*13)++c++ROW.toList.drop (i*13+X c)).toArray):=λf p =>
  oJ _ _ _ f 57 w.heap.size (i*13) _ p ⟨q,d,Y⟩ _ vc ROW 57 c 13 W M9 u (by rw[D,Hb]) (λj v m=>by rw[Addr.add_lit];exact(World.cell?_alloc_past (w:=w) _ q (d+j) Q).trans (Du j v m)) (by rw[D,l];omega) U;have af:X (ROW.toList.take (i*13)++c++ROW.toList.drop (i*13+X c))=a*13:=by simp only[ae,aX,bN,aU,l,D];omega
 generalize x:(ROW.toList.take (i*13)++c++ROW.toList.drop (i*13+X c)).toArray=RA at C;have H:RA.size=a*13:=by rw[<- x,fa,af]
 have J:((w.alloc (.cells ROW 57)).drew.setRow w.heap.size RA).drew.heap[w.heap.size]?=S (.cells RA 57 (0,0)):=setRow_heap _ w.heap.size ROW RA 57 (0,0) u;have bd:X (b.toList.drop (i*13))=(n - i)*13:=by rw[bN,aU,y,wa]
 have O:∀f p sc,(Builtin.copy_ #[53,53] f #[.slice (S ⟨w.heap.size,(i+1)*13,Y⟩) (n - i) p,.slice (S ⟨g,i*13,Y⟩) (n - i) sc]).run A ((w.alloc (.cells ROW 57)).drew.setRow w.heap.size RA).drew = .ok (goInt (Nat.min (n - i) (n - i):Nat)) (((w.alloc (.cells ROW 57)).drew.setRow w.heap.size RA).drew.setRow w.heap.size (RA.toList.take ((i+1)*13)++b.toList.drop (i*13)++RA.toList.drop ((i+1)*13+X (b.toList.drop (i*13)))).toArray):=λf p sc =>oJ _ _ _ f 57 w.heap.size ((i+1)*13) _ p ⟨g,i*13,Y⟩ _ sc RA 57 (b.toList.drop (i*13)) 13 W M9 J (by rw[bd,ac]) (λj v m=>by
   rw[Addr.add_lit];rw[dE]at m;have h0:(w.alloc (.cells ROW 57)).heap[g]?=S (.cells b 57 (0,0)):=by rw[Below.heap_alloc w _ g K];exact R
   have h1:((w.alloc (.cells ROW 57)).drew.setRow w.heap.size RA).drew.heap[g]?=S (.cells b 57 (0,0)):=by simp only[World.setRow,World.drew,eu,ao L];exact h0
   simp only[World.cell?,h1];simpa using m) (by rw[bd,H];omega) (λv hv=>M v (dR hv));clear Q9 t o ad hG l;go_enter func226,Tryz.ntmps226;go_wp2_with (first
  |(at_builtin;refine Lib.wpList_append_run _ rfl _ _ _ _ rfl _ _ rfl rfl _ _ (r _) ?_)
  |(at_builtin;refine wpList_copy_runI _ rfl _ _ 53 53 rfl _ _ rfl rfl (C _ _) ?_));go_region_law_o (refine step_copy_runI rfl _ _ 53 53 rfl _ _ (by simp[Act.eval,Act.put]) (by simp[Act.eval,Act.put]) (O _ _ _) ?_);go_wp2;go_ret;have eX:X (b.toList.take (i*13))=i*13:=by rw[aX,aU,y];omega
 have e1:RA.toList=b.toList.take (i*13)++(c++ROW.toList.drop (i*13+X c)):=by rw[<- x,<- E,aJ]
 have e2:RA.toList.take ((i+1)*13)=b.toList.take (i*13)++c:=by
  have B:X (b.toList.take (i*13)++c)=(i+1)*13:=by rw[ae,eX,D];omega
  rw[e1,<- List.append_assoc,dI (by rw[B];exact aB _),cc (by rw[B];exact aB _)]
 have N:X (RA.toList.take ((i+1)*13)++b.toList.drop (i*13))=(n+1)*13:=by rw[e2,ae,ae,eX,D,bd];omega
 refine⟨a,_,rfl,I,s,?_,?_,setRow_heap _ _ RA _ 57 (0,0) J,?_⟩;.rw[fa,<- List.append_assoc,ae,N,bN,aU,H];omega
 .show List.take ((n+1)*13) (RA.toList.take ((i+1)*13)++(b.toList.drop (i*13)++RA.toList.drop ((i+1)*13+(n - i)*13)))=_;rw[<- List.append_assoc,dI (by rw[N];exact aB _),cc (by rw[N];exact aB _),e2]
 refine⟨rfl,rfl,rfl,?_,λk hk _=>?_⟩;.simp only[World.setRow,World.drew,tZ,World.alloc,Array.size_push];omega
 simp only[World.setRow,World.drew,eu,ao (show ¬w.heap.size=k by omega)];exact Below.heap_alloc w _ k hk
def OL{w:bF}{f:Mem}{c:eJ}{r:ar}{a b:List Value}(h:lU w U f c k a)(C:X a=X c*k)(D:lU w U f [r] k b)(F:X b=k)(m:Nat)(v:m<=X c): lU w U f (c.take m++r::c.drop m) k (a.take (m*k)++b++a.drop (m*k)):=by
 have t:X (a.take (m*k))=m*k:=by rw[aX,C];exact fi (bS _ v)
 have g:X (c.take m)=m:=by rw[aX];exact fi v
 have B:lU w U f (c.take m) k (a.take (m*k)):=by
  refine⟨λq d=>h.1 q (dB d),λi j x e=>?_⟩;have s:i<m:=by obtain⟨q,d,_⟩:=jV e;have:=(ag.1 d).1;omega
  have l:gi c i j=S x:=by simp only[gi,ft,aO s]at e |-;exact e
  obtain⟨n,u,p,o⟩:=h.2 i j x l;have I:j<k:=by obtain⟨q,d,H⟩:=jV l;have:=h.1 q (bn d);have:=(ag.1 H).1;omega
  refine⟨n,u,?_,o⟩;have z:i*k+j<m*k:=by have:(i+1)*k<=m*k:=bS _ s;rw[du,iQ]at this;omega
  rw[ft,aO z];exact p
 have y:lU w U f (c.drop m) k (a.drop (m*k)):=by
  refine⟨λq d=>h.1 q (dR d),λi j x e=>?_⟩;have l:gi c (m+i) j=S x:=by simp only[gi,dE]at e |-;exact e
  obtain⟨n,u,p,o⟩:=h.2 _ j x l;refine⟨n,u,?_,o⟩;rw[dE,<- p,du,da]
 have E:=(B.append D (by rw[t,g])).append y (by rw[ae,ae,t,F,g,du];simp);simpa using E
def SB(m id h g g2:Nat)(ad:Bool)(hm:m<X l)(hl:X l<2^30)(J:ai)(T:id≠h)(h1:J[id]?=S (.row 57 13 184 g Z (l.map bf.axV)))(U:J[h]?=S (.row 57 13 184 g2 ad [x.axV])): PC A 226 [.own id g,.I m,.own h g2] J (λr J'=>r=.own id (g+1)/\J'=J.set id (.row 57 13 184 (g+1) Z ((l.take m++x::l.drop m).map bf.axV))):=by
 refine PC.aac h1 λB w0 w μ vs L o=>?_;have O:=o.2 0 _ rfl;have a1:=(o.2 1 _ rfl).jy;have Q:=o.2 2 _ rfl;have O:=O.lP h1;have Q:=Q.lP U;obtain⟨_,d,N,dJ⟩:=L.obj id _ h1;obtain⟨_,c,G8,Qa⟩:=L.obj h _ U;have e:vs=#[μ id,.int .i64 m,μ h]:=by obtain⟨q⟩:=vs;match q,o.1 with|[u,v,y],_=>simp at O a1 Q;rw[O,a1,Q]
 rw[e];have o1:=lU.one L dJ N.1;have o2:=lU.one L Qa G8.1;rcases N.2 with⟨_,hn⟩|⟨s,i,f,vt,hB,H,Ha,zU,t,F⟩;.rw[ab]at hn;omega
 rcases G8.2 with⟨_,hn⟩|⟨K,p,C,M,am,z,au,ap,af,W⟩;.simp at hn
 have vW:X (l.map bf.axV)=X l:=ab ..;rw[vW]at vt Ha F N;have Vs:K≠s:=λe=>T (L.sep id h _ _ s h1 U (by simp) (by simp) (by rw[vt];rfl) (by rw[M,e];rfl));have R:X c=13:=by simpa using G8.1
 have Ke:X d=X l*13:=by rw[N.1]
 have Du:∀j v,c[j]?=S v->w.cell? ⟨K,0+j,Y⟩=S v:=by
  intro j v P;rw[<- W,ft]at P;split at P;.simp only[World.cell?,z,aP];simpa using P
  cases P
 have ac:K<w.heap.size:=(cB.1 z).1;have n:X ((l.take m++x::l.drop m).map bf.axV)=X l+1:=by simp;omega
 have D:lU w J μ ((l.take m++x::l.drop m).map bf.axV) 13 (d.take (m*13)++c++d.drop (m*13)):=by have:=OL (r:=x.axV) dJ (by rw[vW];exact Ke) Qa R m (by rw[vW];omega);simpa[fM,kI]using this
 have E:X (d.take (m*13)++c++d.drop (m*13))=(X l+1)*13:=by simp only[ae,aX,bN,Ke,R];omega
 rw[vt,M];by_cases uK:X l+1<=i
 .refine(M7 s (X l) i m K 0 p f c w hm uK (by unfold maxLen at zU;omega) Vs H t R Du (λv o=>o1 v (F▸o)) o2 57 57 C.size f.size (by simp[World.shape?,z]) (by simp[World.shape?,H]) (by rw[t];omega) (by simp[World.frozen?,z]) (by simp[World.frozen?,z])).mono ?_;rintro e w' ⟨rfl,rfl⟩;refine⟨_,_,rfl,?_,λb V=>.inl V,?_,D⟩
  .refine⟨rfl,rfl,rfl,?_,λk hk T=>?_⟩;.simp only[World.setRow,World.drew,tZ];exact aB _
   have ub:¬s=k:=λe=>T (by rw[e];rfl);simp only[World.setRow,World.drew,eu,ao ub]
  rw[n];have e1:f.toList.take (m*13)=d.take (m*13):=by rw[<- F,mL,fi (by omega)]
  have e2:(Ka f (X l) m c).toList=(d.take (m*13)++c++d.drop (m*13))++f.toList.drop ((X l+1)*13):=by rw[Ka,F,e1]
  refine⟨E,.inr ⟨s,i,_,rfl,hB,setRow_heap w.drew s f _ 57 (0,0) H,uK,zU,?_,?_⟩⟩;.have e3:(Ka f (X l) m c).size=X (Ka f (X l) m c).toList:=aU.symm;rw[e3,e2,ae,E,bN,(show X f.toList=i*13 from by rw[aU,t])];omega
  rw[e2,dI (by rw[E];exact aB _),cc (by rw[E];exact aB _)]
 have nP:i=X l:=by omega
 subst nP;have ky:f.toList=d:=by rw[<- F,cc (by rw[aU,t];exact aB _)]
 refine(PZ s (X l) m K 0 p f c w hm (by omega) H t R Du (λv o=>o1 v (ky▸o)) o2 ac).mono ?_;rintro e w' ⟨a,row,rfl,q1,q2,q3,q4,q5,q6⟩;refine⟨_,_,rfl,?_,λb V=>.inr ?_,?_,D⟩;.obtain⟨p1,p2,p3,p4,p5⟩:=q6;exact⟨p1,p2,p3,p4,λk hk T=>p5 k hk (by simp)⟩
 .simp only[l9,aa]at V;omega
 rw[n];refine⟨E,.inr ⟨w.heap.size,a,row,rfl,by have:=(cB.1 H).1;omega,q5,q1,q2,q3,?_⟩⟩;rw[q4,ky]
def SC(id a g c:Nat)(b:Bool)(i:X l<2^30)(J:ai)(h1:J[id]?=S (.row 57 13 184 g Z (l.map bf.axV)))(e:J[a]?=S (.row 57 13 184 c b [x.axV])): PC A 226 [.own id g,.I (X l),.own a c] J (λr d=>r=.own id (g+1)/\d=J.set id (.row 57 13 184 (g+1) Z ((l++[x]).map bf.axV))):=by refine aT func226 amN.2 λf h=>an ?_;simp only[amN,SS,seval];simp only[h1,e,ab,VV,Int.reduceBEq,Int.reduceBNe,Nat.reduceAdd,Nat.reduceSub,Nat.reduceLeDiff,Nat.reduceEqDiff,Int.reduceToNat,reduceIte,reduceCtorEq];refine⟨⟨by omega,by omega⟩,nofun,λ_=>⟨⟨by omega,by unfold maxLen;omega⟩,?_⟩⟩;exact fp rfl (Wk.refl _ _) rfl ⟨rfl,by simp⟩
def Xu(m id a g c:Nat)(b:Bool)(i:m<=X l)(d:X l<2^30)(J:ai)(j:id≠a)(h1:J[id]?=S (.row 57 13 184 g Z (l.map bf.axV)))(e:J[a]?=S (.row 57 13 184 c b [x.axV])): PC A 226 [.own id g,.I m,.own a c] J (λr f=>r=.own id (g+1)/\f=J.set id (.row 57 13 184 (g+1) Z ((l.take m++x::l.drop m).map bf.axV))):=by
 rcases Nat.lt_or_eq_of_le i with h|rfl;.exact SB l x m id a g c b h d J j h1 e
 have:=SC l x id a g c b d J h1 e;rwa [List.take_length,qO]
def WM(a b id g:Nat)(l:List bf)(x:bf)(f:M[a]?=S (.box 53 [.own id g]))(c:M[id]?=S (.row 57 13 184 g Z (l.map bf.axV)))(h:M[b]?=S (.box 57 x.axV))(k:Nat)(y:bf)(d:l[k]?=S y): bh A 224 [.I k,.ptr a 0,.ptr b 0] M (.b (decide (0<=dS y x))):=by
 refine aT func224 ad3.2 λi j=>an ?_;have m:k<X l:=(ag.1 d).1;have e:(l.map bf.axV).getD k []=y.axV:=by simp[ax,d]
 simp only[ad3,SS,seval];simp only[f,h,c,e,ab,VV,seval];refine⟨⟨by omega,by omega⟩,by rw[mw];exact aB _,by rw[mw];exact aB _,?_⟩;refine ak (A6 y x _) (by simp only[sD,VV,seval]) ?_;simp only[VV,seval];exact bt rfl ⟨rfl,rfl⟩
def WL(m id g:Nat)(B:X l<2^39)(t:m<=X l)(h1:∀(k:Nat) (y:bf),l[k]?=some y->(0<=dS y x<->m<=k))(J:ai)(d:J[id]?=some (.row 57 13 184 g Z (l.map bf.axV))):
  bh A 169 [.own id g,.agg x.axV] J (.iS [.I m,.b (match l[m]? with|some y=>dS y x==0|none=>Z)]):=by
 refine aT func169 ad7.2 λo z=>an ?_;have s:id<X J:=(ag.1 d).1;have a:∀i:ai,(J++i)[id]?=some (.row 57 13 184 g Z (l.map bf.axV)):=λi=>by rw[bc s];exact d
 simp only[ad7,SS,seval];simp only[bf.axV,cz.axV,En.axV,ab,d,a,VV,seval];refine ak (Jt 224 [.ptr (X J) 0,.ptr (X J+1) 0] (X l) m (by omega) t (by kernel_rfl) (λk q=>?_)) rfl ?_;.obtain⟨y,e⟩:∃y,l[k]?=some y:=⟨_,aA q⟩;refine(WM _ (X J) (X J+1) id g l x (by simp only[bf.axV,cz.axV,En.axV,VV,seval]) (a _) (by simp only[bf.axV,cz.axV,En.axV,VV,seval]) k y e).mono ?_;rintro r w ⟨rfl,rfl⟩;refine⟨?_,rfl⟩;simp only[decide_eq_decide.2 (h1 k y e)]
 simp only[ab,a,VV,seval];have p:((decide ((m:Int)<(X l:Int))==G)=G)<->m<X l:=by simp
 cases e:l[m]? with
 |some y =>
  have j:m<X l:=(ag.1 e).1;have n:(l.map bf.axV).getD m []=y.axV:=by simp[ax,e]
  have f:decide ((m:Int)<(X l:Int))=G:=by simp;omega
  refine⟨λ_=>⟨by omega,by omega⟩,.agg y.axV,λ_=>⟨by rw[n,sD],by rw[n,mw];exact aB _⟩,?_⟩;refine cm (c:=G) (by simp only[f,VV,seval]<;>rfl) (λ_=>A6 y x _) (by simp only[bf.axV,cz.axV,En.axV,VV,seval]) ?_;simp only[f,VV,seval];exact aS o (by simp only[RS,seval];rfl) (by simp[LW]) ⟨rfl,rfl⟩
 |none =>
 have j:¬m<X l:=by simpa using e
 have f:decide ((m:Int)<(X l:Int))=Z:=by simp;omega
 refine⟨λh=>absurd (p.1 h) j,.u,λh=>absurd (p.1 h) j,?_⟩;refine cm (c:=Z) (v:=.I 0) (by simp only[f,VV,seval]<;>rfl) (nofun) rfl ?_;simp only[f,VV,seval];exact aS o (by simp only[RS,seval];rfl) (by simp[LW]) ⟨rfl,rfl⟩
def B9(m:Nat)(c:o.axZ)(d:x.axZ)(h:eO x=0)(e:X (dx x)<=60000)(g:X o.log<=4000000)(b:m<=X o.axX)(h1:∀(k:Nat) (y:bf),o.axX[k]?=some y->(0<=dS y x<->m<=k))(J:ai): bh A 170 [.agg o.axV,.agg x.axV] J (.iS [.agg (jn o x m).axV,.I 0]):=by
 refine aT func170 anq.2 λf i=>an ?_;have a:=c.len;simp only[anq,SS,seval];simp only[bX.axV,bf.axV,cz.axV,En.axV,VV,seval];refine ak (yx x d _) (by simp only[bf.axV,cz.axV,En.axV,VV,seval]) ?_;simp only[HC h,VV,seval];refine ak (SA o.log (dx x) (by omega) (by omega) _) rfl ?_;simp only[Tv e g,VV,seval];refine ak (wi o c _) (by simp only[bX.axV,VV,seval]) ?_;simp only[zP,VV,seval];refine ak (WL o.axX x m (X J+3) 0 (by omega) b h1 _ (by simp only[VV,seval])) (by simp only[bf.axV,cz.axV,En.axV,VV,seval]) ?_;simp only[VV,seval];refine ak (pV x d _) (by simp only[bf.axV,cz.axV,En.axV,VV,seval]) ?_;simp only[bf.axV,cz.axV,En.axV,VV,seval];refine ak (Xu o.axX x m (X J+3) (X J+5) 0 0 Z b a _ (by omega) (by simp only[VV,seval]) (by simp only[bf.axV,cz.axV,En.axV,VV,seval])) rfl ?_;simp only[VV,seval];refine fB 3 f (by simp only[RS,seval];rfl) rfl ?_ ?_;.simp only[az,aq,Pm.fz,jR,cw,aR,LW]
 simp only[az,aq,Pm.fz,jR,cw,aR,jn];exact⟨rfl,trivial⟩
def w9(e:En)(a:bH):bf:=⟨⟨o.ax7+1,o.ax0,mB a o.ax0+1⟩,1,e,a⟩
def po(m:Nat):bX:={ jn o x m with ayi:=X (jn o x m).log }
def Z8:qP [.I 0,.I 0,.I 0,.I 0,.nil,.nil,.s [],.s [],.s [],.s [],.I 0,.I 0,.nil] nf.axV:=by simp only[bf.axV,cz.axV,En.axV,nf,aq,aF,aw];repeat first|exact .nil|refine .cons (.refl _) ?_|refine .cons (.nil _) ?_
def TJ(o:Int):0<=mB v o:=by unfold mB;(repeat' split)<;>omega
def aep(e:En)(z:e.axZ)(d:o.axZ)(i:o.down=Z)(c:Nat->Nat)(t:qe o.axX c)(a:bH)(l:rY (jX c) []=a)(w:mB a o.ax0<128)(h0:0<=o.ax7)(b:o.ax7<2^30)(m:Nat) (g:(w9 o e a).axZ) (s:eO (w9 o e a)=0) (j:X (dx (w9 o e a))<=60000) (r:X o.log<=4000000) (p:m<=X o.axX) (h1:∀(k:Nat) (y:bf),o.axX[k]?=some y->(0<=dS y (w9 o e a)<->m<=k)) (J:ai) : bh A 150 [.agg o.axV,.I 1,.agg e.axV] J (.iS [.agg (po o (w9 o e a) m).axV,.agg (w9 o e a).axV,.I 0]):=by
 refine aT func150 ad8.2 λb v=>an ?_;have x:=TJ a o.ax0;have q:IntKind.i64.wrap (o.ax7+1)=o.ax7+1:=IntWalk.i64_in _ (by omega);have u:IntKind.i64.wrap (mB a o.ax0+1)=mB a o.ax0+1:=IntWalk.i64_in _ (by omega);have n:(decide (128<=mB a o.ax0)||decide (1073741824<=o.ax7))=Z:=by simp;omega
 have f:X (jn o (w9 o e a) m).log<2^40:=by simp only[jn,ae,jh];omega
 simp only[ad8,SS,seval];simp only[bX.axV,En.axV,VV,seval];refine ak (Lc o d i c t _) (by simp only[bX.axV,VV,seval]) ?_;simp only[l,VV,seval];refine ak (pW a o.ax0 _) rfl ?_;simp only[q,u,VV,seval];refine⟨λh=>(by rw[n]at h;cases h),λ_=>?_⟩;refine ak (B9 o (w9 o e a) m d g s j r p h1 _) (by simp only[bX.axV,bf.axV,cz.axV,En.axV,w9,VV,seval]) ?_;simp only[bX.axV,VV,seval];refine ak (pV (w9 o e a) g _) (by simp only[bf.axV,cz.axV,En.axV,w9,VV,seval]) ?_;simp only[bf.axV,cz.axV,En.axV,bC,VV,seval];refine aS b (by simp only[RS,seval];rfl) (by simp[LW]) ⟨rfl,rfl⟩
def HL(e:En)(f:e.axZ)(d:cY e=0)(j:o.axZ)(b:o.down=Z)(c:Nat->Nat)(t:qe o.axX c)(a:bH)(n:rY (jX c) []=a)(l:mB a o.ax0<128)(h0:0<=o.ax7)(i:o.ax7<2^30)(m:Nat) (p:(w9 o e a).axZ) (s:eO (w9 o e a)=0) (g:X (dx (w9 o e a))<=60000) (r:X o.log<=4000000) (q:m<=X o.axX) (h1:∀(k:Nat) (y:bf),o.axX[k]?=some y->(0<=dS y (w9 o e a)<->m<=k)) (J:ai) : bh A 96 [.agg o.axV,.agg e.axV] J (.iS [.agg (po o (w9 o e a) m).axV,.agg (w9 o e a).axV,.I 0]):=by refine aT func96 p96.2 λh u=>an ?_;simp only[p96,SS,seval];simp only[bX.axV,En.axV,b,VV,seval];refine ak (kx e f _) (by simp only[En.axV,VV,seval]) ?_;simp only[d,VV,seval];refine ak (aep o e f j b c t a n l h0 i m p s g r q h1 _) (by simp only[bX.axV,En.axV,b,VV,seval]) ?_;simp only[bX.axV,bf.axV,cz.axV,En.axV,VV,seval];exact aS h (by simp only[RS,seval];rfl) (by simp[LW]) ⟨rfl,rfl⟩
def ZX(m:Nat)(c:X l<2^39)(a:m<=X l)(h1:∀(k:Nat) (y:bf),l[k]?=some y->(0<=dS y x<->m<=k))(e:∀y,l[m]?=some y->dS y x≠0)(J:ai): bh A 169 [.sl 13 (l.map bf.axV),.agg x.axV] J (.iS [.I m,.b Z]) :=(JV l x m c a h1 J).mono λr g ⟨h,f⟩=>⟨by rw[h];cases d:l[m]? with|none=>rfl|some y=>simp[e y d],f⟩
def Ft(m:Nat)(e:o.axZ)(h:x.axZ)(b:o.down=false)(f:eO x=0)(j:X (dx x)<=60000)(n:X o.log<=4000000)(d:m<=X o.axX)(h1:∀(k:Nat) (y:bf),o.axX[k]?=some y->(0<=dS y x<->m<=k)) (l:∀y,o.axX[m]?=some y->dS y x≠0) (p:x.aZ.bR≠o.ax0) (J:ai) : bh A 116 [.agg o.axV,.agg x.axV] J (.iS [.agg (jn o x m).axV,.I 0]):=by
 refine aT func116 WR.2 λi q=>an ?_;have g:=e.len;have a:(x.aZ.bR==o.ax0)=false:=by simpa using p
 simp only[WR,SS,seval];simp only[bX.axV,bf.axV,cz.axV,En.axV,b,VV,seval];refine ak (qi x h _) (by simp only[bf.axV,cz.axV,En.axV,VV,seval]) ?_;simp only[f,VV,seval];refine ak (ZX o.axX x m (by omega) d h1 l _) (by simp only[bf.axV,cz.axV,En.axV,VV,seval]) ?_;simp only[VV,seval];refine⟨nofun,.u,nofun,?_⟩;refine cm (c:=false) (v:=.I 0) (by simp only[VV,seval]<;>rfl) (nofun) rfl ?_;simp only[a,VV,seval];refine ak (B9 o x m e h f j n d h1 _) (by simp only[bX.axV,bf.axV,cz.axV,En.axV,b,VV,seval]) ?_;simp only[bX.axV,VV,seval];exact aS i (by simp only[RS,seval];rfl) (by simp[LW]) ⟨rfl,rfl⟩
def Cd(a:o.axZ)(c:o.down=Z)(J:ai):bh A 67 [.agg o.axV] J (.sl 8 ((dC o.axX).map En.axV)):=by refine aT func67 p67.2 λd e=>an ?_;have b:=a.len;simp only[p67,SS,seval];simp only[bX.axV,c,VV,seval];refine ak (PA o.axX a.axX _) rfl ?_;simp only[VV,seval];exact gL d (by rfl) (by simp[LW])
def FC(a:o.axZ)(J:ai):bh A 30 [.agg o.axV] J (.sl 8 ((dC o.axX).map En.axV)):=by refine aT func30 p30.2 λb c=>an ?_;simp only[p30,SS,seval];simp only[bX.axV,VV,seval];refine ak (wS o.axX a.axX _) rfl ?_;simp only[VV,seval];exact gL b (by rfl) (by simp[LW])
def Z4:l.map bf.axV++[[.I x.aZ.time,.I x.aZ.bR,.I x.aZ.ax0,.I x.axW,.sl 3 (x.axY.ax3.map It.axV),.sl 3 (x.axY.ax4.map It.axV),.s x.axY.cJ,.s x.axY.next,.s x.axY.dL,.s x.axY.dh,.I x.axY.ayd,.I x.axY.ayf,.sl 1 (x.ax5.map cG)]]=(l++[x]).map bf.axV:=by simp[bf.axV,cz.axV,En.axV]
def aiv(o:bW U)(l:List bf)(t:∀x∈l,x.axZ)(m:X l<2^39)(v:bH):∀(a c b:List bf) (g:Nat),l=c++a->X b<=X c ->(∀g,((fj 1 (fh (.sl 1 (v.map cG)) (fj 3 (fh (.own (X U) g) (fj 23 fo))))) λr=>Q (.exit 0) ⟨r,U++[fy g false (b++kF a v)]⟩)) ->gF (X U) A Us Q (X a+1) ⟨(uu 1 (.sl 1 (v.map cG)::uu 3 (.own (X U) g::uu 5 (.sl 13 (l.map bf.axV)::.I (X l)::.I (X c)::uu 15 [])))),U++[fy g false b]⟩:=by
 intro a;induction a with
 |nil =>intro c b g d w f;have d:=dH d;subst d;simp only[kF,rV,bE]at f;refine aD λR k=>?_;simp only[Us,VV,seval];exact⟨λh=>by simp at h,λ_=>f g ..⟩
 |cons x a ih =>
 intro c b g d w f;have y:=ko d;have u:x.axZ:=t x (by rw[d];simp);have n:=eE c x (by omega);have q:(List.map bf.axV l).getD (X c) []=x.axV:=by rw[d];exact gA
 have p:decide ((X c:Int)<(X l:Int))=G:=by simp;omega
 have j:=X5 v x.aZ;have i:=pV x u;simp only[bf.axV,cz.axV,En.axV,aF,aw]at j i;refine aD λR k=>?_;simp only[Us,fy,al,q,p,ab,bf.axV,cz.axV,En.axV,V.pure,VV,seval];refine⟨⟨by omega,by omega⟩,?_⟩;refine ak (j _) rfl ?_;simp only[n,VV,seval];have s:(X b+1)*184<=2^47/\X b+1<=maxLen:=by simp only[maxLen];omega
 refine⟨λh=>?_,λh=>?_⟩
 .have e:kF (x::a) v=x::kF a v:=EA (by simpa using h);rw[e]at f;refine ak (i _) rfl ?_;simp only[ab,n,V.pure,VV,seval];refine⟨by simpa using s,?_⟩;rw[Z4];refine k _ (dn [fy (g+1) false (b++[x])] [_] (cx o (by simp[fy])) ?_ ?_ (ih (c++[x]) (b++[x]) (g+1) (by rw[d];simp) (by simp;omega) (by simpa using f)));.repeat' constructor
  simp only[LW,ah,aj,aP];omega
 have e:kF (x::a) v=kF a v:=sO (by simpa using h);rw[e]at f;refine k _ (dn [fy g false b] [_] (cx o (by simp[fy])) ?_ ?_ (ih (c++[x]) b g (by rw[d];simp) (by simp;omega) f));.repeat' constructor
 simp only[LW,ah,aj,aP];omega
def aaX(c:o.axZ)(e:o.down=Z)(v:bH)(J:ai):bh prog 86 [.agg o.axV,.sl 1 (v.map cG)] J (.sl 13 ((kF o.axX v).map bf.axV)):=by
 refine aT func86 p86.2 λb h=>?_;have d:=c.len;simp only[p86,SS,seval];refine cD.cut λR a=>?_;simp only[bX.axV,e,VV,seval];refine a _ ?_;clear a R;refine cD.cut λR a=>?_;simp only[VV,seval];refine a _ ?_;clear a R;refine cD.cut λR a=>?_;simp only[VV,seval];refine a _ (an ?_);clear a R;simp only[ab,VV,seval];have f:iY (X J) (uu 1 (.sl 1 (v.map cG)::uu 3 (.nil::uu 5 (.sl 13 (o.axX.map bf.axV)::.I (X o.axX)::.I (X ([]:List bf):Nat)::uu 15 [])))):=by simp only[LW]
 refine cD.wk ((((Wk.fG (ys:=(uu 1 (.sl 1 (v.map cG)::uu 3 (.nil::uu 5 (.sl 13 (o.axX.map bf.axV)::.I (X o.axX)::.I (X ([]:List bf):Nat)::uu 15 []))))) (by repeat' constructor)).trans (Wk.lA (aB _) b (dO.1 f))).trans (Wk.jP (P:=prog) (k:=5) K3 rfl)).trans (Wk.fG (ys:=(uu 1 (.sl 1 (v.map cG)::uu 3 (.own (X J) 0::uu 5 (.sl 13 (o.axX.map bf.axV)::.I (X o.axX)::.I (X ([]:List bf):Nat)::uu 15 []))))) ?_)) (cD.mM (X o.axX+1) (aiv b o.axX c.axX (by omega) v o.axX [] [] 0 rfl (aB _) ?_));.simp only[VV,seval];repeat' constructor
 intro g;simp only[JE];intros;simp only[fy,aw,VV,seval];refine fB 0 b (by simp only[RS,seval];rfl) rfl ?_ ?_;.simp only[az,aq,cg,Pm.fz,jR,cw,aR,LW]
 simp only[az,aq,cg,Pm.fz,jR,cw,aR];exact⟨rfl,trivial⟩
def adL{e:ai}{c:Nat}{K a b C:Ob}{f:bK}{N:Nat}{d:ar}(g:bW (jZ U k B y c E F D t))(l:mK (X U) K)(o:mK (X U) a)(m:mK (X U) b)(i:mK (X U) C)(n:qP q d)(j:iY (X U) d) (h:gF (X U) prog f Q N ⟨d,jZ U k B y c K a b C⟩):gF (X U) prog f Q N ⟨q,jZ U k B y c K a b C++e⟩ :=vd ((Wk.fG n).trans (Wk.lA (by rw[nC];exact aB _) (E7 g l o m i) (dO.1 (by rw[nC];exact j)))) h
def me:Let:=⟨i,j,x⟩
def aiH{k a b c ga gc:Nat}{K:bG}(h:uV U k a b c)(p:List bX)(C:Ob)(v:mK (X U) C)(H:bW (jZ U k a b c E F D t))(i j:Int)(g:Nat)(ax2:List Let)(l:List bf)(o:X ax2+X l<2^30):∀(e d:List bf),l=d++e ->(((fj 85 fo) λy=>K (.exit 1) ⟨y,jZ U k a b c (eW (.own a ga) (.own b (g+X l)) (.own c gc)) (bI ga p) (cL (g+X l) (ax2++l.map (me i j))) C⟩)) ->gF (X U) A UH K (X e+1) ⟨(.ptr k 0::.I i::.I j::uu 62 (.sl 13 (l.map bf.axV)::.I (X l)::.I (X d)::uu 17 [])),jZ U k a b c (eW (.own a ga) (.own b (g+X d)) (.own c gc)) (bI ga p) (cL (g+X d) (ax2++d.map (me i j))) C⟩:=by
 intro e;induction e with
 |nil =>intro d f m;have f:=dH f;subst f;refine aD λR q=>?_;simp only[UH,VV,seval];exact⟨λh=>by simp at h,λ_=>m ..⟩
 |cons x e ih =>
 intro d f m;have J:=ko f;have B:=eE d x (by omega);have n:(List.map bf.axV l).getD (X d) []=x.axV:=by rw[f];exact gA
 have w:(0:Int)<=(X d:Int):=by omega
 have u:(X d:Int)<(X l:Int):=by omega
 refine aD λR q=>?_;simp only[bf.axV,cz.axV,En.axV,aF,aw]at n;simp only[UH,eW,cL,h.all,n,B,w,u,ab,V.pure,maxLen,VV,seval];have L:X (ax2++d.map (me i j))=X ax2+X d:=by simp
 refine⟨λ_=>⟨⟨by omega,by omega⟩,?_⟩,nofun⟩;have r:(ax2++d.map (me i j)).map Let.axV++[[.I i,.I j,.I x.aZ.time,.I x.aZ.bR,.I x.aZ.ax0,.I x.axW,.sl 3 (x.axY.ax3.map It.axV),.sl 3 (x.axY.ax4.map It.axV),.s x.axY.cJ,.s x.axY.next,.s x.axY.dL,.s x.axY.dh,.I x.axY.ayd,.I x.axY.ayf,.sl 1 (x.ax5.map cG)]]=(ax2++(d++[x]).map (me i j)).map Let.axV:=by simp[me,Let.axV,bf.axV,cz.axV,En.axV]
 have z:g+X d+1=g+X (d++[x]):=by simp;omega
 rw[r,z];refine q _ (adL H (kE h.la h.lb h.lc) trivial trivial v (by repeat' constructor) ?_ (ih (d++[x]) (by rw[f];simp) m));simp only[LW,h.lk]
def Sk{k a b c ga e gc:Nat}(h:uV U k a b c)(d:List bX)(ax2:List Let)(f:fF)(O:X f<2^30)(i j:Nat)(V:i≠j)(m o:bX)(y:d[i]?=S m)(B:d[j]?=S o)(t:m.down=Z)(w:o.down=Z) (N:mT ⟨d,ax2,f⟩ i j=Z) (F:bH) (Q:∀U,bh A 87 [.agg o.axV] U (.sl 1 (F.map cG))) (l:List bf) (J:∀U,bh A 86 [.agg m.axV,.sl 1 (F.map cG)] U (.sl 13 (l.map bf.axV))) (E:X ax2<2^29) (R:X l<2^29) : PC A 43 [.ptr k 0,.I i,.I j] (jZ U k a b c (eW (.own a ga) (.own b e) (.own c gc)) (bI ga d) (cL e ax2) (fm gc f)) (λr D=>if X ax2+X l<=256 then r=.I 0/\D=jZ U k a b c (eW (.own a ga) (.own b (e+X l)) (.own c gc)) (bI ga d) (cL (e+X l) (ax2++l.map (me i j))) (fm gc f)else r=.I 3/\D=jZ U k a b c (eW (.own a ga) (.own b e) (.own c gc)) (bI ga d) (cL e ax2) (fm gc f)):=by
 refine aT func43 p43.2 λM W=>an ?_;have n:(d.map bX.axV).getD i []=m.axV:=by simp[ax,y]
 have g:(d.map bX.axV).getD j []=o.axV:=by simp[ax,B]
 have T:i<X d:=(ag.1 y).1;have uL:j<X d:=(ag.1 B).1;have q:(0:Int)<=(i:Int):=by omega
 have s:(0:Int)<=(j:Int):=by omega
 have p:(i:Int)<(X d:Int):=by omega
 have x:(j:Int)<(X d:Int):=by omega
 have P:((i:Int)==(j:Int))=Z:=by simp;omega
 have L:IntKind.i64.wrap ((X ax2:Int)+(X l:Int))=((X ax2+X l:Nat):Int):=by rw[IntWalk.i64_in _ (by omega)];omega
 have H:gi (d.map bX.axV) i 5=S (.b Z):=by simp[gi,y,bX.axV,t]
 have u:gi (d.map bX.axV) j 5=S (.b Z):=by simp[gi,B,bX.axV,w]
 simp only[bX.axV]at n g;simp only[p43,SS,seval];simp only[eW,bI,cL,fm,h.all,n,g,q,s,p,x,P,t,w,H,u,ab,VV,seval];refine⟨_,rfl,?_⟩;simp only[h.all,VV,seval];refine ak (HY ⟨d,ax2,f⟩ (.own a ga) (.own b e) i j c gc (by show X f<2^62;omega) _ ?_ ?_ ?_) rfl ?_;.simp only[h.all,fm]
 .simp only[h.all,aK,VV,seval]
 .simp only[h.all,aK,VV,seval]
 simp only[N,h.all,n,g,q,s,p,x,ab,VV,seval];refine ak (Q _) (by simp only[bX.axV,w,VV,seval]) ?_;simp only[h.all,n,g,q,s,p,x,ab,VV,seval];refine ak (J _) (by simp only[bX.axV,t,VV,seval]) ?_;simp only[h.all,L,ab,VV,seval];refine⟨λv=>?_,λv=>?_⟩
 .have z:¬X ax2+X l<=256:=by simp at v;omega
  exact fp rfl (Wk.refl _ _) rfl (by rw[ao z];exact⟨rfl,rfl⟩)
 have z:X ax2+X l<=256:=by simp at v;omega
 have C:=λK=>aiH (K:=K) (ga:=ga) (gc:=gc) h d (fm gc f) trivial M i j e ax2 l (by omega) l [] rfl;simp only[aj,aq,bE,cg]at C;simp only[eW,bI,cL,fm]at C;refine cD.wk (Wk.fG ?_) (cD.mM (X l+1) (C _ ?_));.repeat' constructor
 simp only[JE];intros;simp only[VV,seval];exact fp rfl (Wk.refl _ _) rfl (by rw[aO z];exact⟨rfl,rfl⟩)
def nE:ar:=[.I H.src,.I H.dst,.I H.op.aZ.time,.I H.op.aZ.bR,.I H.op.aZ.ax0,.I H.op.axW,.sl 3 (H.op.axY.ax3.map It.axV),.sl 3 (H.op.axY.ax4.map It.axV),.s H.op.axY.cJ,.s H.op.axY.next,.s H.op.axY.dL,.s H.op.axY.dh,.I H.op.axY.ayd,.I H.op.axY.ayf,.sl 1 (H.op.ax5.map cG)]
def mI:H.axV=nE H:=by simp[nE,Let.axV,bf.axV,cz.axV,En.axV]
def GF{c d b g:Nat}(h:uV U k B y c)(a C:Ob)(w:mK (X U) a)(o:mK (X U) C)(ax2:List Let)(e:Ev)(v:e.axW=6)(i:Nat)(q:e.n=i)(x:Let)(s:ax2[i]?=S x)(D:x.op.axZ)(p:X ax2<2^29): PC A 45 [.ptr k 0,.agg e.axV] (jZ U k B y c (eW (.own B d) (.own y b) (.own c g)) a (cL b ax2) C) (λr u=>if X ax2=256 then r=.I 3/\u=jZ U k B y c (eW (.own B d) (.own y b) (.own c g)) a (cL b ax2) C else r=.I 0/\u=jZ U k B y c (eW (.own B d) (.own y (b+1)) (.own c g)) a (cL (b+1) (ax2++[x])) C):=by
 obtain⟨F,M,N,H,L⟩:=e;simp only at v q;subst v q;refine aT func45 p45.2 λl J=>an ?_;have t:(ax2.map Let.axV).getD i []=nE x:=by simp[ax,s,mI]
 have K:i<X ax2:=(ag.1 s).1;have z:(0:Int)<=(i:Int):=by omega
 have E:(i:Int)<(X ax2:Int):=by omega
 have m:ax2.map Let.axV++[nE x]=(ax2++[x]).map Let.axV:=by simp[mI]
 simp only[nE]at t m;simp only[p45,SS,seval];simp only[Ev.axV,En.axV,eW,cL,h.all,t,z,E,ab,VV,seval];refine⟨λf=>?_,λf=>?_⟩
 .have j:X ax2=256:=by simp at f;omega
  exact kc l (kE h.la h.lb h.lc) w trivial o (.inr rfl) rfl (by simp[LW]) (by rw[aO j];exact⟨rfl,rfl⟩)
 have j:¬X ax2=256:=by simp at f;omega
 refine ak (J5 x D _) (by simp only[mI,nE,VV,seval]) ?_;simp only[mI,nE,h.all,ab,V.pure,maxLen,VV,seval];refine⟨⟨by omega,by omega⟩,?_⟩;rw[m];exact kc l (kE h.la h.lb h.lc) w trivial o (.inr rfl) rfl (by simp[LW]) (by rw[ao j];exact⟨rfl,rfl⟩)
def CG(k a b c:Nat)(f:Net)(e:Int)(r:V)(j:ai):Prop :=r=.I e/\∃K d B C,j=jZ M k a b c K d B C/\(e=0->∃g i h,K=eW (.own a g) (.own b i) (.own c h)/\d=bI g f.aM/\B=cL i f.aW/\C=fm h f.cy)
def ij:V:=.iS [.agg (if i=0 then P else Net.zero).axV,.I i]
def LB(a c e d f g b:Ob):uV (M++[a,c,e,d,f,g,b]) (X M+6) (X M+3) (X M+4) (X M+5):=by constructor<;>simp<;>omega
def Nx(d:bW U){a b C:Ob}{c:Net}(f:t=eW (.own (X U+3) k) (.own (X U+4) B) (.own (X U+5) y))(h:a=bI k c.aM)(g:b=cL B c.aW)(e:C=fm y c.cy) (i:q=[.agg [.own (X U+3) k,.own (X U+4) B,.own (X U+5) y],.I 0]):Wk A (X U) q (U++[E,F,D,a,b,C,t]) [.agg c.axV,.I 0] U:=by subst f h g e i;refine(Wk.qM 3 rfl).trans ((Wk.qM 4 rfl).trans ((Wk.qM 5 rfl).trans ?_));simp only[az,aq,Pm.fz,jR,gY,cw,dm,jd,aR,bo,Nat.reduceEqDiff,o0];exact Wk.yL d (by simp only[Net.axV,LW])
def MQ(u:P.axZ)(e:Ev)(q:jz P e=G)(j:e.axW=1)(i:Net)(f:Int)(m:∀J k a b c,uV J k a b c->PC A 46 [.ptr k 0,.agg e.axV] (jZ J k a b c (eW (.own a 0) (.own b 0) (.own c 0)) (bI 0 P.aM) (cL 0 P.aW) (fm 0 P.cy)) (CG J k a b c i f))(J:ai): bh A 18 [.agg P.axV,.agg e.axV] J (ij i f):=by
 have w:=zR P e (by omega);obtain⟨x,v,o,p,t⟩:=e;simp only at j;subst j;refine aT func18 p18.2 λl D=>an ?_;simp only[p18,SS,seval];simp only[Net.axV,Ev.axV,En.axV,ab,VV,seval];refine ak (w _) rfl ?_;simp only[q,VV,seval];refine dV (sB P u _) rfl ?_;rintro r n ⟨rfl,rfl⟩;simp only[bI,cL,fm,aK,da,Nat.reduceAdd,ab,VV,seval];have h:=m (J++[.box 29 P.axV,.box 38 (Ev.axV ⟨1,v,o,p,t⟩),.box 29 [.nil,.nil,.nil],.dead,.dead,.dead,.dead]) _ _ _ _ (LB J _ _ _ _ _ _ _);rw[qR]at h;simp only[cH,cu,eW,bI,cL,fm,Net.axV,Ev.axV,En.axV]at h;refine dV h (by simp only[Ev.axV,En.axV,VV,seval]) ?_;rintro r n ⟨rfl,K,d,B,C,rfl,s⟩;rw[qR];simp only[cH,cu,VV,seval];refine⟨λg=>?_,λg=>?_⟩
 .have g:¬f=0:=by simpa using g
  exact lE (xs:=[.agg [.nil,.nil,.nil],.I f]) (ys:=[.agg Net.zero.axV,.I f]) l (.inr rfl) (by simp only[RS,seval]) (.cons (.iK (.cons (.nil 6) (.cons (.nil 15) (.cons (.nil 2) .nil)))) (.cons (.refl _) .nil)) (by simp only[Net.zero,Net.axV,LW]) ⟨by rw[ij,ao g];rfl,rfl⟩
 have g:f=0:=by simpa using g
 subst g;obtain⟨y,z,E,rfl,rfl,rfl,rfl⟩:=s rfl;simp only[eW,bI,cL,fm,aK,ab,VV,seval];exact fp (by simp only[RS,seval]) (Nx l rfl rfl rfl rfl rfl) rfl ⟨rfl,rfl⟩
def Sl(u:P.axZ)(e:Ev)(q:jz P e=G)(j:e.axW=3)(i:Net)(f:Int)(m:∀J k a b c,uV J k a b c->PC A 43 [.ptr k 0,.I e.a,.I e.b] (jZ J k a b c (eW (.own a 0) (.own b 0) (.own c 0)) (bI 0 P.aM) (cL 0 P.aW) (fm 0 P.cy)) (CG J k a b c i f))(J:ai): bh A 18 [.agg P.axV,.agg e.axV] J (ij i f):=by
 have w:=zR P e (by omega);obtain⟨x,v,o,p,t⟩:=e;simp only at j;subst j;refine aT func18 p18.2 λl D=>an ?_;simp only[p18,SS,seval];simp only[Net.axV,Ev.axV,En.axV,ab,VV,seval];refine ak (w _) rfl ?_;simp only[q,VV,seval];refine dV (sB P u _) rfl ?_;rintro r n ⟨rfl,rfl⟩;simp only[bI,cL,fm,aK,da,Nat.reduceAdd,ab,VV,seval];have h:=m (J++[.box 29 P.axV,.box 38 (Ev.axV ⟨3,v,o,p,t⟩),.box 29 [.nil,.nil,.nil],.dead,.dead,.dead,.dead]) _ _ _ _ (LB J _ _ _ _ _ _ _);rw[qR]at h;simp only[cH,cu,eW,bI,cL,fm,Net.axV,Ev.axV,En.axV]at h;refine dV h (by simp only[Ev.axV,En.axV,VV,seval]) ?_;rintro r n ⟨rfl,K,d,B,C,rfl,s⟩;rw[qR];simp only[cH,cu,VV,seval];refine⟨λg=>?_,λg=>?_⟩
 .have g:¬f=0:=by simpa using g
  exact lE (xs:=[.agg [.nil,.nil,.nil],.I f]) (ys:=[.agg Net.zero.axV,.I f]) l (.inr rfl) (by simp only[RS,seval]) (.cons (.iK (.cons (.nil 6) (.cons (.nil 15) (.cons (.nil 2) .nil)))) (.cons (.refl _) .nil)) (by simp only[Net.zero,Net.axV,LW]) ⟨by rw[ij,ao g];rfl,rfl⟩
 have g:f=0:=by simpa using g
 subst g;obtain⟨y,z,E,rfl,rfl,rfl,rfl⟩:=s rfl;simp only[eW,bI,cL,fm,aK,ab,VV,seval];exact fp (by simp only[RS,seval]) (Nx l rfl rfl rfl rfl rfl) rfl ⟨rfl,rfl⟩
def W4(u:P.axZ)(e:Ev)(q:jz P e=G)(j:e.axW=7)(i:Net)(f:Int)(m:∀J k a b c,uV J k a b c->PC A 44 [.ptr k 0,.agg e.axV] (jZ J k a b c (eW (.own a 0) (.own b 0) (.own c 0)) (bI 0 P.aM) (cL 0 P.aW) (fm 0 P.cy)) (CG J k a b c i f))(J:ai): bh A 18 [.agg P.axV,.agg e.axV] J (ij i f):=by
 have w:=zR P e (by omega);obtain⟨x,v,o,p,t⟩:=e;simp only at j;subst j;refine aT func18 p18.2 λl D=>an ?_;simp only[p18,SS,seval];simp only[Net.axV,Ev.axV,En.axV,ab,VV,seval];refine ak (w _) rfl ?_;simp only[q,VV,seval];refine dV (sB P u _) rfl ?_;rintro r n ⟨rfl,rfl⟩;simp only[bI,cL,fm,aK,da,Nat.reduceAdd,ab,VV,seval];have h:=m (J++[.box 29 P.axV,.box 38 (Ev.axV ⟨7,v,o,p,t⟩),.box 29 [.nil,.nil,.nil],.dead,.dead,.dead,.dead]) _ _ _ _ (LB J _ _ _ _ _ _ _);rw[qR]at h;simp only[cH,cu,eW,bI,cL,fm,Net.axV,Ev.axV,En.axV]at h;refine dV h (by simp only[Ev.axV,En.axV,VV,seval]) ?_;rintro r n ⟨rfl,K,d,B,C,rfl,s⟩;rw[qR];simp only[cH,cu,VV,seval];refine⟨λg=>?_,λg=>?_⟩
 .have g:¬f=0:=by simpa using g
  exact lE (xs:=[.agg [.nil,.nil,.nil],.I f]) (ys:=[.agg Net.zero.axV,.I f]) l (.inr rfl) (by simp only[RS,seval]) (.cons (.iK (.cons (.nil 6) (.cons (.nil 15) (.cons (.nil 2) .nil)))) (.cons (.refl _) .nil)) (by simp only[Net.zero,Net.axV,LW]) ⟨by rw[ij,ao g];rfl,rfl⟩
 have g:f=0:=by simpa using g
 subst g;obtain⟨y,z,E,rfl,rfl,rfl,rfl⟩:=s rfl;simp only[eW,bI,cL,fm,aK,ab,VV,seval];exact fp (by simp only[RS,seval]) (Nx l rfl rfl rfl rfl rfl) rfl ⟨rfl,rfl⟩
def AG(m:Nat)(i:o.axZ)(d:x.axZ)(a:o.down=Z)(s:eO x=0)(q:m<=X o.axX)(h1:∀(k:Nat) (y:bf),o.axX[k]?=some y->(0<=dS y x<->m<=k)) (e:o.axX[m]?=some x) (J:ai) : bh A 116 [.agg o.axV,.agg x.axV] J (.iS [.agg o.axV,.I 0]):=by
 refine aT func116 WR.2 λn t=>an ?_;have l:=i.len;have u:m<X o.axX:=(ag.1 e).1;have g:(o.axX.map bf.axV).getD m []=x.axV:=by simp[ax,e]
 have f:PC A 169 [.sl 13 (o.axX.map bf.axV),.agg x.axV] (J++[.box 61 o.axV,.box 57 x.axV,.box 61 [.I 0,.I 0,.nil,.nil,.I 0,.b Z]]) (λr j=>r=.iS [.I m,.b G]/\j=J++[.box 61 o.axV,.box 57 x.axV,.box 61 [.I 0,.I 0,.nil,.nil,.I 0,.b Z]]) :=(JV o.axX x m (by omega) q h1 _).mono λr j ⟨h,p⟩=>⟨by rw[h,e];simp[ow],p⟩;simp only[WR,SS,seval];simp only[bX.axV,bf.axV,cz.axV,En.axV,aF,aw,a,VV,seval]at f |-;refine ak (qi x d _) (by simp only[bf.axV,cz.axV,En.axV,VV,seval]) ?_;simp only[s,VV,seval];refine ak f rfl ?_;simp only[VV,seval];refine⟨⟨by omega,by simp;omega⟩,.agg x.axV,⟨by rw[g,sD],by rw[g,mw];exact aB _⟩,?_⟩;refine cm (c:=G) (by simp only[VV,seval]<;>rfl) (λ_=>ru x x d d _) (by simp only[bf.axV,cz.axV,En.axV,VV,seval]) ?_;simp only[Gr,VV,seval];refine ak (qh o i _) (by simp only[bX.axV,a,VV,seval]) ?_;simp only[bX.axV,a,VV,seval];exact aS n (by simp only[RS,seval];rfl) (by simp[LW]) ⟨rfl,rfl⟩
def X6(r:∀x∈l,x.aZ.ax0<=128):∃c,qe l c:=by
 have least:∀(p:Nat->Prop) (n:Nat),p n->∃j,j<=n/\p j/\∀k,k<j->¬p k:=by
  intro p n;induction n using Nat.strongRecOn with
  |ind n ih =>
  intro q;by_cases h:∃k,k<n/\p k;.obtain⟨k,e,b⟩:=h;obtain⟨j,m,f,g⟩:=ih k e b;exact⟨j,by omega,f,g⟩
  exact⟨n,aB _,q,λk e b=>h ⟨k,e,b⟩⟩
 have a:∀o:Nat,∃j:Nat,j<=128/\(∀x∈l,mm x≠((o:Int),(j:Int)+1))/\∀k:Nat,k<j->∃x∈l,mm x=((o:Int),(k:Int)+1):=by intro o;obtain⟨j,m,f,g⟩:=least (λj=>∀x∈l,mm x≠((o:Int),(j:Int)+1)) 128 (λx d i=>by have:=r x d;simp only[mm,aY]at i;omega);refine⟨j,m,f,λk e=>?_⟩;refine bY λs=>g k e λx d i=>s ⟨x,d,i⟩
 exact⟨λo=>Classical.choose (a o),λo _=>by have:=(Jh (a o)).1;omega,λo _ j t=>(Jh (a o)).2.2 j t,λo _ x d=>(Jh (a o)).2.1 x d⟩
def KD(h:H2 f N)(q:0<=f/\f<8):∃c,qe (fJ N) c/\(∀o:Nat,o<8->c o<=128)/\c f.toNat=qU f N:=by
 obtain⟨c,d⟩:=X6 (fJ N) λx b=>(qE (h.op x (fq.1 b)).ok).ax0.2;have a:∀(x:bf) (o j:Nat),mm x=((o:Int),(j:Int)+1)<->x.aZ.bR=o/\x.aZ.ax0=(j:Int)+1:=by intro x o j;simp[mm]
 refine⟨c,d,λo m=>?_,?_⟩
 .rcases Nat.eq_zero_or_pos (c o)with n|n;.omega
  obtain⟨x,b,k⟩:=d.has o m (c o - 1) (by omega);have p:=(qE (h.op x (fq.1 b)).ok).ax0;have l:=((a x o (c o - 1)).1 k).2;omega
 have e:((f.toNat:Nat):Int)=f:=by omega
 have p:¬c f.toNat<qU f N:=λi=>by obtain⟨x,b,l,g⟩:=(h.Z0 (c f.toNat)).2 i;exact d.no f.toNat (by omega) x (fq.2 b) ((a x _ _).2 ⟨by omega,g⟩)
 have l:¬qU f N<c f.toNat:=λi=>by obtain⟨x,b,k⟩:=d.has f.toNat (by omega) (qU f N) i;have g:=(a x _ _).1 k;have:=(h.Z0 (qU f N)).1 ⟨x,fq.1 b,by omega,g.2⟩;omega
 omega
def qx:bH:=jf (jX c)
def KE(o:Int):mB (jX c) o=if o<0\/8<=o then 0 else(c o.toNat:Int):=by
 have a:X (jX c)=8:=by simp[jX]
 by_cases h:o<0\/8<=o;.rw[aO h,mB,aO (by rw[a];omega)]
 obtain⟨i,rfl⟩:∃i:Nat,o=i:=⟨o.toNat,by omega⟩;have e:(jX c).getD i 0=c i:=by rw[ax,jX,bP,kQ (by omega)];rfl
 rw[ao h,mB,ao (by rw[a];omega),al,e,ao (by omega)]
def Zl(a:∀o:Nat,o<8->c o<=128):jf (qx c)=qx c/\(∀n∈qx c,n<=128)/\X (qx c)<=8:=by
 refine⟨Rl _,λn b=>?_,?_⟩
 .obtain⟨o,rfl⟩:=VY b;rw[KE];split;.omega
  have:=a o.toNat (by omega);omega
 rw[qx,xU];exact nr _ _ 8
def Fg(a:0<=f/\f<8):mB (qx c) f=(c f.toNat:Int):=by rw[qx,Oh,KE,ao (by omega)]
def oa(a:List bf)(b:Int)(e:En)(c:Nat->Nat):bf:=⟨⟨jc a+1,i,(qU i a:Int)+1⟩,b,e,qx c⟩
def Pn(h:H2 f N)(x:bf):nv (fJ N) x<=X (fJ N)/\∀(k:Nat) (y:bf),(fJ N)[k]?=S y->(0<=dS y x<->nv (fJ N) x<=k) :=⟨Vr _ _,yr (pY h.one) x⟩
def fA(e:Int):V:=.iS [.agg o.axV,.I e]
def Lm(a:o.down=G)(J:ai):bh A 116 [.agg o.axV,.agg x.axV] J (fA bX.zero 15):=by refine aT func116 WR.2 λb c=>an ?_;simp only[WR,SS,seval];simp only[bX.axV,bf.axV,cz.axV,En.axV,a,VV,seval];exact iH b (by simp only[RS,seval]) (.cons (Cv.iK (vY 0)) (.cons (.refl _) .nil)) (by simp only[bX.axV,LW]) ⟨rfl,rfl⟩
def NF(e:En)(a:o.down=G)(J:ai):bh A 96 [.agg o.axV,.agg e.axV] J (.iS [.agg bX.zero.axV,.agg nf.axV,.I 15]):=by refine aT func96 p96.2 λb c=>an ?_;simp only[p96,SS,seval];simp only[bX.axV,En.axV,a,VV,seval];exact iH b (by simp only[RS,seval]) (.cons (Cv.iK (vY 0)) (.cons (Cv.iK Z8) (.cons (.refl _) .nil))) (by simp only[bX.axV,bf.axV,cz.axV,En.axV,aF,aw,LW]) ⟨rfl,rfl⟩
def lr(dX:Int):Nat:=o.ayi.toNat+min dX.toNat (X o.log - o.ayi.toNat)
def px(dX:Int):bX:=if o.down then o else⟨o.ax0,0,[],o.log.take (lr o dX),lr o dX,G⟩
def X4(dX:Int)(e:o.axZ)(n:0<=o.ayi/\o.ayi<=X o.log)(J:ai):bh A 98 [.agg o.axV,.I dX] J (.agg (px o dX).axV):=by
 refine aT func98 p98.2 λd m=>an ?_;have q:=e.log;obtain⟨y,c⟩:∃y:Nat,o.ayi=y:=⟨o.ayi.toNat,by omega⟩;have j:(if o.ayi<0 then 0 else o.ayi)=(y:Int):=by rw[c,ao (by omega)]
 have f:IntKind.i64.wrap ((X o.log:Int) - (y:Int))=((X o.log - y:Nat):Int):=by rw[IntWalk.i64_in _ (by omega)];omega
 have b:(if((X o.log - y:Nat):Int)<0 then 0 else((X o.log - y:Nat):Int))=((X o.log - y:Nat):Int):=ao (by omega);have l:IntKind.i64.wrap ((X o.log:Int) - ((X o.log - y:Nat):Int))=(y:Int):=by rw[IntWalk.i64_in _ (by omega)];omega
 have h:(if((X o.log - y:Nat):Int)<(if dX<0 then 0 else dX)then((X o.log - y:Nat):Int)else if dX<0 then 0 else dX)=((min dX.toNat (X o.log - y):Nat):Int):=by (repeat' split)<;>omega
 have g:IntKind.i64.wrap ((y:Int)+((min dX.toNat (X o.log - y):Nat):Int))=((lr o dX:Nat):Int):=by rw[IntWalk.i64_in _ (by omega),lr,c,al];omega
 have p:lr o dX<=X o.log:=by rw[lr,c,al];omega
 have i:(aC o.log).take (lr o dX)=aC (o.log.take (lr o dX)):=by simp[aC,fM]
 have k:X (o.log.take (lr o dX))=lr o dX:=by rw[aX];omega
 simp only[p98,SS,seval];simp only[bX.axV,VV,seval];refine ak (qh o e _) (by simp only[bX.axV,VV,seval]) ?_;simp only[bX.axV,VV,seval];refine⟨λa=>?_,λa=>?_⟩;.rw[show px o dX=o from aO a];exact aS d (by simp only[RS,seval];rfl) (by simp[LW]) ⟨rfl,rfl⟩
 rw[show px o dX=⟨o.ax0,0,[],o.log.take (lr o dX),lr o dX,G⟩from ao (by rw[a];simp)];simp only[bC,j,f,b,l,h,g,al,i,k,VV,seval];refine⟨⟨by omega,by omega⟩,?_⟩;refine iH d (by simp only[RS,seval]) (.cons (Cv.iK (.cons (.refl _) (.cons (.refl _) (.cons (.nil _) (.cons (.refl _) (.cons (.refl _) (.cons (.refl _) .nil))))))) .nil) (by simp[LW]) ⟨rfl,rfl⟩
def adS(h:0<=i)(e:i<8)(J:ai):bh A 40 [.I i] J (.iS [.agg (bX.axV ⟨i,0,[],[],0,Z⟩),.I 0]):=by
 refine aT func40 p40.2 λa d=>an ?_;have b:decide (i<0)=Z:=by simp;omega
 have c:decide (8<=i)=Z:=by simp;omega
 simp only[p40,SS,seval];simp only[b,c,VV,seval];refine iH a (by simp only[RS,seval]) (.cons (Cv.iK (.cons (.refl _) (.cons (.refl _) (.cons (.nil _) (.cons (.nil _) (.cons (.refl _) (.cons (.refl _) .nil))))))) (.cons (.refl _) .nil)) (by simp[LW]) ⟨rfl,rfl⟩
def Iw(a b:aL)(J:ai):bh A 78 [.sl 1 (aC a),.sl 1 (aC b)] J (.b (a==b)):=by refine aT func78 p78.2 λc d=>an ?_;simp only[p78,SS,seval];simp only[jC,VV,seval];exact bt (by simp only[RS,seval];rfl) ⟨rfl,rfl⟩
def Fz(e:o.axZ)(J:ai):bh A 35 [.agg o.axV,.agg o.axV] J (.b G):=by
 refine aT func35 p35.2 λc f=>an ?_;have g:=e.log;have d:qD o.axX o.axX=G:=B6.2 rfl;have a:(o.down==o.down)=G:=by cases o.down<;>rfl
 simp only[p35,SS,seval];simp only[bX.axV,a,VV,seval];refine cm (by simp only[VV,seval]<;>rfl) (λ_=>IB o.axX o.axX _) rfl ?_;simp only[d,VV,seval];refine cm (by simp only[VV,seval]<;>rfl) (λ_=>Iw o.log o.log _) rfl ?_;simp only[a,VV,seval];exact gL c (by rfl) (by simp[LW])
def lz:Option bf:=l.find? λy=>y.aZ.bR==i&&y.aZ.ax0==j
def vl:Option bf->V|some y=>.iS [.agg y.axV,.b G]|none=>.iS [.agg nf.axV,.b Z]
def aiD(v:X q=13)(u:bW (U++[.box 57 q]))(l:List bf)(o:X l<2^40)(f n:Int):∀(a c:List bf),l=c++a ->(lz a f n=Y->((fj 6 (fh (.ptr (X U) 0) (fj 24 fo))) λk=>Q (.exit 0) ⟨k,U++[.box 57 q]⟩)) ->(∀y m,lz a f n=S y->((fj 6 (fh (.ptr (X U) 0) (fh (.b G) (fj 23 fo)))) λk=>Q .ret ⟨k,U++(.box 57 y.axV::m)⟩)) ->gF (X U) A UA Q (X a+1) ⟨(uu 1 (.I f::.I n::uu 3 (.ptr (X U) 0::uu 3 (.sl 13 (l.map bf.axV)::.I (X l)::.I (X c)::uu 18 [])))),U++[.box 57 q]⟩:=by
 intro a;induction a with
 |nil =>intro c d i g;have d:=dH d;subst d;refine aD λR p=>?_;simp only[UA,VV,seval];exact⟨λh=>by simp at h,λ_=>i rfl ..⟩
 |cons y a ih =>
 intro c d i g;have w:=ko d;have t:=eE c y (by omega);have s:(List.map bf.axV l).getD (X c) []=y.axV:=by rw[d];exact gA
 have r:decide ((X c:Int)<(X l:Int))=G:=by simp;omega
 refine aD λR p=>?_;simp only[UA,al,s,r,ab,bf.axV,cz.axV,En.axV,V.pure,VV,seval];refine⟨⟨by omega,by omega⟩,λh=>?_,λh=>?_⟩
 .have e:lz (y::a) f n=S y:=by simp only[lz,List.find?_cons,h]
  have j:q.drop 13=[]:=oH (by omega);refine⟨by omega,?_⟩;simp only[j,bE];exact g y _ e ..
 have e:lz (y::a) f n=lz a f n:=by simp only[lz,List.find?_cons,h]
 rw[e]at i g;simp only[t,VV,seval];refine p _ (dn [.box 57 q] [_] u ?_ ?_ (ih (c++[y]) (by rw[d];simp) i g));.repeat' constructor
 simp only[LW,ah,aj,aP];omega
def um(a:X l<2^40)(f n:Int)(J:ai):bh A 64 [.sl 13 (l.map bf.axV),.I f,.I n] J (vl (lz l f n)):=by
 refine aT func64 p64.2 λb e=>an ?_;have c:bW (J++[.box 57 [.I 0,.I 0,.I 0,.I 0,.nil,.nil,.s [],.s [],.s [],.s [],.I 0,.I 0,.nil]]):=cx b (by simp only[bV,bM,dp,dF,dm,LW]);simp only[p64,SS,seval];simp only[ab,VV,seval];refine cD.bL ?_ (X l+1) (aiD rfl c l a f n l [] rfl (λh=>?_) (λy d h=>?_));.repeat' constructor
 .simp only[JE];intros;simp only[h,vl,VV,seval];exact iH b (by simp only[RS,seval]) (.cons (Cv.iK Z8) (.cons (.refl _) .nil)) (by simp only[bf.axV,cz.axV,En.axV,aF,aw,LW]) ⟨rfl,rfl⟩
 simp only[JE];intros;simp only[h,vl,bf.axV,cz.axV,En.axV,VV,seval];exact aS b (by simp only[RS,seval];rfl) (by simp[LW]) ⟨rfl,rfl⟩
def aiC(j:X l<2^30)(n:∀o∈l,o.axZ)(x:bf)(p:x.axZ):∀(a b:List bf),l=b++a ->((fh (.sl 13 (l.map bf.axV)) (fj 2 (fh (.ptr (X U) 0) (fj 1 (fh (.I (X b+zO x a:Nat)) (fj 27 fo)))))) λr=>Q (.exit 0) ⟨r,U++[.box 57 x.axV]⟩) ->gF (X U) A Uz Q (X a+1) ⟨(.sl 13 (l.map bf.axV)::uu 2 (.ptr (X U) 0::uu 1 (.I (X b)::uu 27 []))),U++[.box 57 x.axV]⟩:=by
 intro a;induction a with
 |nil =>
  intro b f d;have f:=dH f;subst f;have g:decide ((X l:Int)<(X l:Int))=Z:=by simp
  simp only[zO,cg]at d;refine aD λR i=>?_;simp only[Uz,g,ab,bf.axV,cz.axV,En.axV,V.pure,VV,seval];refine⟨by simp,.u,by simp,?_⟩;refine cm (c:=Z) (v:=.I 0) (by simp only[VV,seval]<;>rfl) (nofun) rfl ?_;simp only[VV,seval];exact d ..
 |cons y a ih =>
 intro b f d;have m:=n y (by rw[f];simp);have s:=ko f;have k:=eE b y (by omega);have q:(List.map bf.axV l).getD (X b) []=y.axV:=by rw[f];exact gA
 have g:decide ((X b:Int)<(X l:Int))=G:=by simp;omega
 refine aD λR i=>?_;simp only[Uz,al,q,g,bf.axV,cz.axV,En.axV,ab,V.pure,VV,seval];refine⟨⟨by omega,by omega⟩,_,rfl,?_⟩;refine cm (by simp only[VV,seval]<;>rfl) (λ_=>ur y x m p _) rfl ?_;simp only[zO]at d;simp only[k,VV,seval];refine⟨λh=>?_,λh=>?_⟩
 .rw[aO (lW h)]at d;have e:X b+(zO x a+1)=X (b++[y])+zO x a:=by simp;omega
  rw[e]at d;refine i _ (bL ?_ (ih (b++[y]) (by rw[f];simp) d));repeat' constructor
 rw[ao (oF h)]at d;simp only[cg]at d;exact d ..
def EE(h:X l<2^30)(i:∀o∈l,o.axZ)(m:x.axZ)(J:ai):bh A 65 [.sl 13 (l.map bf.axV),.agg x.axV] J (.sl 13 ((ID l x).map bf.axV)):=by
 refine aT func65 p65.2 λc n=>?_;simp only[p65,SS,seval];refine cD.cutAt (.more (.more (.cM _ _))) λR d=>?_;simp only[bf.axV,cz.axV,En.axV,V.pure,VV,seval];refine cD.wk (Wk.fG (ys:=(.sl 13 (l.map bf.axV)::uu 2 (.ptr (X J) 0::uu 1 (.I (X ([]:List bf):Nat)::uu 27 [])))) ?_) (cD.mM (X l+1) (aiC l h i x m l [] rfl ?_));.repeat' constructor
 simp only[JE];intros;simp only[aj,aP,VV,seval];refine d _ (cD.fG (fr':=(.sl 13 (l.map bf.axV)::uu 2 (.ptr (X J) 0::uu 1 (.I (zO x l:Nat)::uu 27 [])))) (an ?_) (by repeat' constructor));clear d R;have g:=Uo x l;unfold ID;generalize zO x l=k at g |-;have e:(l.map bf.axV).take k=(l.take k).map bf.axV:=fM.symm;have f:((l.map bf.axV).drop k).take (X l - k)=(l.drop k).map bf.axV:=by rw[<- List.map_drop];exact cc (by simp)
 have b:X (l.take k)=k:=by simp;omega
 cases a:((l.take k).map bf.axV).isEmpty with
 |true =>
  have j:l.take k=[]:=by simpa using a
  simp only[e,a,al,bf.axV,cz.axV,En.axV,ab,gm,aI,bo,V.pure,maxLen,VV,seval];simp only[f,b,ae,ab,bN,VV,seval];refine⟨by omega,by omega,by omega,by omega,by omega,by omega,fB 1 c (by simp only[RS,seval];rfl) rfl ?_ ?_⟩;.simp only[az,aq,Pm.fz,jR,cw,aR,LW]
  simp only[az,aq,Pm.fz,jR,cw,aR];refine⟨?_,trivial⟩;simp[Pm.cM,j,bf.axV,cz.axV,En.axV]
 |false =>
 simp only[e,a,al,bf.axV,cz.axV,En.axV,ab,aI,bo,V.pure,maxLen,VV,seval];simp only[f,b,ae,ab,bN,VV,seval];refine⟨by omega,by omega,by omega,by omega,by omega,by omega,by omega,fB 1 c (by simp only[RS,seval];rfl) rfl ?_ ?_⟩;.simp only[az,aq,Pm.fz,jR,cw,aR,LW]
 simp only[az,aq,Pm.fz,jR,cw,aR];refine⟨?_,trivial⟩;simp[Pm.cM,bf.axV,cz.axV,En.axV]
def aeV(o:q[0]?=S (.I i))(m:bW (U++[.box 61 q]))(l:List bf)(j:X l<2^40):∀(a b:List bf) (c:Nat),l=b++a->c<=X b ->((fj 3 (fh (.I (c+X (a.filter λx=>x.aZ.bR==i):Nat)) (fj 19 fo))) λr=>Q (.exit 0) ⟨r,U++[.box 61 q]⟩) ->gF (X U) A Mg Q (X a+1) ⟨(uu 1 (.ptr (X U) 0::uu 1 (.I c::uu 3 (.sl 13 (l.map bf.axV)::.I (X l)::.I (X b)::uu 13 [])))),U++[.box 61 q]⟩:=by
 intro a;induction a with
 |nil =>intro b c d t f;have d:=dH d;subst d;simp only[rV,aj,cg]at f;refine aD λR g=>?_;simp only[Mg,VV,seval];exact⟨λh=>by simp at h,λ_=>f ..⟩
 |cons y a ih =>
 intro b c d t f;have u:=ko d;have k:=eE b y (by omega);have s:IntKind.i64.wrap ((c:Int)+1)=((c+1:Nat):Int):=cT (by omega);have p:(List.map bf.axV l).getD (X b) []=y.axV:=by rw[d];exact gA
 have n:decide ((X b:Int)<(X l:Int))=G:=by simp;omega
 refine aD λR g=>?_;simp only[Mg,al,p,n,o,ab,bf.axV,cz.axV,En.axV,V.pure,VV,seval];refine⟨⟨by omega,by omega⟩,λh=>?_,λh=>?_⟩
 .have e:X (List.filter (λx=>x.aZ.bR==i) (y::a))=X (List.filter (λx=>x.aZ.bR==i) a)+1:=by rw[iN,aO h,ah]
  rw[e]at f;simp only[k,s,VV,seval];refine g _ (dn [.box 61 q] [_] m ?_ ?_ (ih (b++[y]) (c+1) (by rw[d];simp) (by simp;omega) (by rw[show c+1+X (List.filter (λx=>x.aZ.bR==i) a)=c+(X (List.filter (λx=>x.aZ.bR==i) a)+1)by omega];exact f)));.repeat' constructor
  simp only[LW,ah,aj,aP];omega
 have e:List.filter (λx=>x.aZ.bR==i) (y::a)=List.filter (λx=>x.aZ.bR==i) a:=by rw[iN,ao (by rw[h];simp)]
 rw[e]at f;simp only[k,VV,seval];refine g _ (dn [.box 61 q] [_] m ?_ ?_ (ih (b++[y]) c (by rw[d];simp) (by simp;omega) f));.repeat' constructor
 simp only[LW,ah,aj,aP];omega
def ZC(c:o.axZ)(J:ai):bh A 153 [.agg o.axV] J (.I (X (o.axX.filter λx=>x.aZ.bR==o.ax0):Nat)):=by
 refine aT func153 anF.2 λa e=>an ?_;have f:=c.len;have d:bW (J++[.box 61 [.I o.ax0,.I o.ax7,.sl 13 (o.axX.map bf.axV),.sl 1 (aC o.log),.I o.ayi,.b o.down]]):=cx a (by simp only[bV,bM,dp,dF,dm,LW]);simp only[anF,SS,seval];simp only[bX.axV,ab,VV,seval];refine cD.bL (fr':=(uu 1 (.ptr (X J) 0::uu 1 (.I (0:Nat)::uu 3 (.sl 13 (o.axX.map bf.axV)::.I (X o.axX)::.I (X ([]:List bf):Nat)::uu 13 []))))) ?_ (X o.axX+1) (aeV o.ax0 rfl d o.axX (by omega) o.axX [] 0 rfl (aB _) ?_);.repeat' constructor
 simp only[JE];intros;simp only[aP,VV,seval];exact gL a (by rfl) (by simp[LW])
def Fo:Ob:=.row 3 1 8 0 Z (v.map cG)
def DH{l:List bf}{f n:Int}(h:∃x∈l,mm x=(f,n)):∃y,lz l f n=S y:=by obtain⟨x,c,a⟩:=h;simp only[mm,aY]at a;cases b:lz l f n with|some y=>exact⟨y,rfl⟩|none =>have:=Ag.1 b x c;simp[a.1,a.2]at this
def DI{n:Int}(h:∀x∈N,mm x≠(f,n)):lz N f n=Y:=by refine Ag.2 λx b a=>h x b ?_;simp only[aV,dM]at a;simp[mm,a.1,a.2]
def Xo(K:bW U)(l:List bf)(x:X l<2^40)(u:q[2]?=S (.sl 13 (l.map bf.axV)))(r:iY (X U+2) q)(o:Nat)(w:o<8)(c:Nat)(P:c<=128)(h1:∀j:Nat,j<c->∃y,lz l o ((j:Int)+1)=S y)(C:c<128->lz l o ((c:Int)+1)=Y): ∀(N j:Nat) (d:bH),j+N=c->X d=8->d[o]?=S (j:Int) ->(∀e g,X e=8->e[o]?=S (c:Int)->(∀b,b≠o->e[b]?=d[b]?)->((fj 1 (fh (.ptr (X U) 0) (fj 1 (fh (.own (X U+1) 0) (fj 5 (fh (.I 8) (fh (.I o) (fj 30 fo)))))))) λE=>Q (.exit 2) ⟨E,U++(.box 61 q::Fo e::g)⟩)) ->gF (X U) A Gm Q (N+1) ⟨(uu 1 (.ptr (X U) 0::uu 1 (.own (X U+1) 0::.I o::uu 4 (.I 8::.I o::uu 30 [])))),U++[.box 61 q,Fo d]⟩:=by
 intro N;induction N with
 |zero =>
  intro j d M f k n;obtain rfl:j=c:=by omega
  have m:gi (d.map cG) o 0=S (.I (j:Int)):=by simp[gi,cG,k]
  refine aD λR B=>?_;simp only[Gm,Fo,m,u,ab,f,al,VV,seval];refine⟨⟨by omega,by omega⟩,λh=>?_,λh=>n d [] f k (λ_ _=>rfl) ..⟩;have s:j<128:=by have:=lW h;omega
  have p:IntKind.i64.wrap ((j:Int)+1)=(j:Int)+1:=IntWalk.i64_in _ (by omega);have D:=C s;refine⟨⟨by omega,by omega⟩,?_⟩;simp only[p];intro a;refine ak (um l x o ((j:Int)+1) _) rfl ?_;simp only[D,vl,bf.axV,cz.axV,En.axV,nf,VV,seval];exact n d _ f k (λ_ _=>rfl) ..
 |succ N ih =>
 intro j d M f k n;have m:gi (d.map cG) o 0=S (.I (j:Int)):=by simp[gi,cG,k]
 have t:decide ((j:Int)<128)=G:=by simp;omega
 have p:IntKind.i64.wrap ((j:Int)+1)=((j+1:Nat):Int):=cT (by omega);obtain⟨y,z⟩:=h1 j (by omega);refine aD λR B=>?_;simp only[Gm,Fo,m,u,t,ab,f,al,VV,seval];refine⟨⟨by omega,by omega⟩,⟨by omega,by omega⟩,?_⟩;intro a;have J:((j+1:Nat):Int)=(j:Int)+1:=rfl;rw[<- J]at z;simp only[p];refine ak (um l x o ((j+1:Nat):Int) _) rfl ?_;simp only[z,p,vl,bf.axV,cz.axV,En.axV,m,t,ab,f,al,VV,seval];have L:(d.map cG).set o (V.i .i64 ((j+1:Nat):Int)::((d.map cG).getD o []).drop 1)=(d.set o ((j+1:Nat):Int)).map cG:=by
  have:(d.map cG).getD o []=cG j:=by simp[ax,k]
  rw[this,Yt];rfl
 rw[L];refine⟨⟨by omega,by omega⟩,⟨by omega,by omega⟩,w,?_⟩;refine B _ (dn [.box 61 q,Fo (d.set o ((j+1:Nat):Int))] [_] ?_ ?_ ?_ (ih (j+1) (d.set o ((j+1:Nat):Int)) (by omega) (by simp[f]) (by simp[f,w]) λe g F O H=>n e g F O λb v=>by rw[H b v,bD (BM v)]));.refine cx K ?_;simp only[Fo,bV,bM,dp,dF,dm,ah,aj,aP];exact r
 .repeat' constructor
 simp only[LW,ah,aj,aP];omega
def Xn{bx:ar}(p:bW U)(l:List bf)(C:X l<2^40)(v:bx[2]?=S (.sl 13 (l.map bf.axV)))(b:iY (X U+2) bx)(c:Nat->Nat)(D:∀o:Nat,o<8->c o<=128)(h1:∀o:Nat,o<8->∀j:Nat,j<c o->∃y,lz l o ((j:Int)+1)=S y)(u:∀o:Nat,o<8->lz l o ((c o:Int)+1)=Y): ∀(N o:Nat) (a:bH),o+N=8->X a=8->(∀q,q<o->a[q]?=S (c q:Int))->(∀q,o<=q->q<8->a[q]?=S 0) ->(((fj 3 (fh (.own (X U+1) 0) (fj 37 fo))) λw=>Q (.exit 0) ⟨w,U++[.box 61 bx,Fo (jX c)]⟩)) ->gF (X U) A MA Q (N+1) ⟨(uu 1 (.ptr (X U) 0::uu 1 (.own (X U+1) 0::uu 5 (.I 8::.I o::uu 30 [])))),U++[.box 61 bx,Fo a]⟩:=by
 intro N;induction N with
 |zero =>
  intro o a B r k h g;obtain rfl:o=8:=by omega
  have e:a=jX c:=by
   apply jF;intro q;by_cases f:q<8;.rw[k q f];simp[jX,f]
   rw[cp (by omega),cp (by simp[jX];omega)]
  rw[e];refine aD λR s=>?_;simp only[MA,VV,seval];first
   |exact g ..
   |exact⟨nofun,λ_=>g ..⟩
 |succ N ih =>
 intro o a B r k h g;have t:decide ((o:Int)<8)=true:=by simp;omega
 have z:IntKind.i64.wrap ((o:Int)+1)=((o+1:Nat):Int):=cT (by omega);refine aD λR s=>?_;simp only[MA,t,VV,seval];refine cD.wk (Wk.fG (ys:=(uu 1 (.ptr (X U) 0::uu 1 (.own (X U+1) 0::.I o::uu 4 (.I 8::.I o::uu 30 []))))) ?_) (cD.mM (c o+1) (Xo p l C v b o (by omega) (c o) (D o (by omega)) (h1 o (by omega)) (λ_=>u o (by omega)) (c o) 0 a (by omega) r (h o (aB _) (by omega)) ?_));.repeat' constructor
 intro d m x E n;simp only[JE];intros;simp only[z,VV,seval];refine s _ (dn [.box 61 bx,Fo d] m ?_ ?_ ?_ (ih (o+1) d (by omega) x (λq f=>?_) (λq f i=>?_) g));.refine cx p ?_;simp only[Fo,bV,bM,dp,dF,dm,ah,aj,aP];exact b
 .repeat' constructor
 .simp only[LW,ah,aj,aP];omega
 .by_cases e:q=o;.subst e;exact E
  rw[n q e];exact k q (by omega)
 rw[n q (by omega)];exact h q (by omega) i
def Fy(f:o.axZ)(c:Nat->Nat)(e:qe o.axX c)(k:∀q:Nat,q<8->c q<=128)(J:ai):bh A 104 [.agg o.axV] J (.sl 1 ((qx c).map cG)):=by
 refine aT func104 aol.2 λd n=>?_;have p:=f.len;simp only[aol,SS,seval];refine cD.cutAt (.more (.more (.cM _ _))) λR m=>?_;simp only[bX.axV,VV,seval];refine⟨⟨.inl trivial,by decide⟩,?_⟩;have i:∀(x:bf) (q j:Nat),mm x=((q:Int),(j:Int)+1)->mm x=((q:Int),(j:Int)+1):=λ_ _ _ h=>h;refine cD.wk (Wk.fG (ys:=(uu 1 (.ptr (X J) 0::uu 1 (.own (X J+1) 0::uu 5 (.I 8::.I (0:Nat)::uu 30 []))))) ?_) (cD.mM (8+1) (Xn (bx:=[.I o.ax0,.I o.ax7,.sl 13 (o.axX.map bf.axV),.sl 1 (aC o.log),.I o.ayi,.b o.down]) d o.axX (by omega) rfl (by simp[LW]) c k (λq a j l=>DH (e.has q a j l)) (λq a=>DI (e.no q a)) 8 0 [0,0,0,0,0,0,0,0] rfl rfl (λq a=>by omega) (λq _ a=>?_) ?_));.repeat' constructor
 .rcases q with _|_|_|_|_|_|_|_|q<;>first|rfl|omega
 simp only[JE];intros;simp only[VV,seval];refine m _ (cD.wk ((Wk.fz (X J+1) (E:=3) (sz:=1) (by':=8) (g:=0) (sh:=Z) (rows:=(jX c).map cG) (by rw[jE];rfl)).trans (Wk.fG (ys:=(uu 3 (.sl 1 ((jX c).map cG)::uu 37 []))) ?_)) (an ?_));.simp only[az,aq,Pm.fz,jR,cw,aR];repeat' constructor
 simp only[ji,Fo,VV,seval];refine ak (FO (jX c) _) rfl ?_;simp only[VV,seval];exact gL d (by rfl) (by simp[LW])
def zp{k a b c ga gb gc:Nat}(h:uV U k a b c)(d:List bX)(ax2:List Let)(e:fF)(v:X e<2^30)(i j:Nat)(B:i≠j)(n p:bX)(l:d[i]?=S n)(m:d[j]?=S p)(o:n.down=Z)(g:p.down=Z) (q:mT ⟨d,ax2,e⟩ i j=G) : PC A 43 [.ptr k 0,.I i,.I j] (jZ U k a b c (eW (.own a ga) (.own b gb) (.own c gc)) (bI ga d) (cL gb ax2) (fm gc e)) (λr w=>r=.I 8/\w=jZ U k a b c (eW (.own a ga) (.own b gb) (.own c gc)) (bI ga d) (cL gb ax2) (fm gc e)):=by
 refine aT func43 p43.2 λC D=>an ?_;have E:i<X d:=(ag.1 l).1;have F:j<X d:=(ag.1 m).1;have t:(0:Int)<=(i:Int):=by omega
 have y:(0:Int)<=(j:Int):=by omega
 have s:(i:Int)<(X d:Int):=by omega
 have u:(j:Int)<(X d:Int):=by omega
 have x:((i:Int)==(j:Int))=Z:=by simp;omega
 have z:gi (d.map bX.axV) i 5=S (.b Z):=by simp[gi,l,bX.axV,o]
 have f:gi (d.map bX.axV) j 5=S (.b Z):=by simp[gi,m,bX.axV,g]
 simp only[p43,SS,seval];simp only[eW,bI,cL,fm,h.all,t,y,s,u,x,o,g,z,f,ab,VV,seval];refine⟨_,rfl,?_⟩;simp only[h.all,VV,seval];refine ak (HY ⟨d,ax2,e⟩ (.own a ga) (.own b gb) i j c gc (by show X e<2^62;omega) _ ?_ ?_ ?_) rfl ?_;.simp only[h.all,fm]
 .simp only[h.all,aK,VV,seval]
 .simp only[h.all,aK,VV,seval]
 simp only[q,h.all,VV,seval];exact fp rfl (Wk.refl _ _) rfl ⟨rfl,rfl⟩
def zk:ar:=[.I x.aZ.time,.I x.aZ.bR,.I x.aZ.ax0,.I x.axW,.sl 3 (x.axY.ax3.map It.axV),.sl 3 (x.axY.ax4.map It.axV),.s x.axY.cJ,.s x.axY.next,.s x.axY.dL,.s x.axY.dh,.I x.axY.ayd,.I x.axY.ayf,.sl 1 (x.ax5.map cG)]
def k6:x.axV=zk x:=by simp[zk,bf.axV,cz.axV,En.axV]
def aef{l:List bf}{i:Nat}{x:bf}(h:l[i]?=S x):(l.map bf.axV).getD i []=zk x:=by simp[ax,h,k6]
def aeb:(l.map bf.axV).set m (zk x)=(l.set m x).map bf.axV:=by rw[Yt,k6]
def aed(h:m<X l):((l.map bf.axV).getD m []).drop 13=[]:=by
 have:(l.map bf.axV).getD m []=l[m].axV:=by simp[ax,h]
 rw[this];simp[bf.axV,cz.axV,En.axV]
def Xm{KK:bG}{id g:Nat}(w:id<X U)(f:Nat)(O:Gv A f=G)(q:bf->bf->Bool)(M:∀x y:bf,x.axZ->y.axZ->∀U,bh A f [.agg x.axV,.agg y.axV] U (.b (q x y)))(n K:Nat)(hn:n<2^30): ∀(c d j:List bf) (a:bf) (k:Nat),K+k=X d+X j+1->1<=k->n=K+k+X c->(∀x∈a::c,x.axZ) ->(∀m:List bf,X (d++mf q a c)+X m=n->((fh (.own id g) (fj 4 (fh (.I (X (d++mf q a c))) (fj 60 fo)))) λN=>KK (.exit 2) ⟨N,U.set id (fy g Z ((d++mf q a c)++m))⟩)) ->gF (X U) A Gl KK (X c+1) ⟨(.own id g::.fn f []::uu 3 (.I (X d)::.sub id g K n::.I k::uu 58 [])),U.set id (fy g Z (d++(j++a::c)))⟩:=by
 have s:∀K:Ob,(U.set id K)[id]?=S K:=λK=>aN w;intro c;induction c with
 |nil =>
  intro d j a k F P r p o;have H:decide ((k:Int)<((n - K:Nat):Int))=Z:=by simp at r |-;omega
  refine aD λR v=>?_;simp only[Gl,fy,s,H,VV,seval];have:=o (j++[a]) (by simp[mf]at r |-;omega);simp only[mf,bE,fy]at this;exact this ..
 |cons y c ih =>
 intro d j a k F P r p o;simp only[ah]at r;have J:IntKind.i64.wrap ((k:Int) - 1)=((k - 1:Nat):Int):=by rw[IntWalk.i64_in _ (by omega)];omega
 have B:(0:Int)<=(k:Int):=by omega
 have D:(k:Int)<((n - K:Nat):Int):=by omega
 have f2:(0:Int)<=((k - 1:Nat):Int):=by omega
 have f3:((k - 1:Nat):Int)<((n - K:Nat):Int):=by omega
 have t:=aef (l:=d++(j++a::y::c)) (i:=K+k) (by rw[F];exact agK ..);have C:=aef (l:=d++(j++a::y::c)) (i:=K+(k - 1)) (by rw[show K+(k - 1)=X d+X j by omega];exact agJ ..);have z:=aeb (d++(j++a::y::c)) (X d) y;rw[We]at z;have T:=eE d y (by omega);have W:IntKind.i64.wrap ((k:Int)+1)=((k+1:Nat):Int):=by rw[cT (by omega)]
 simp only[zk]at t C z;refine aD λR v=>?_;simp only[Gl,fy,s,cZ,J,B,D,f2,f3,t,C,al,VV,seval];refine sF rfl O (M y a (p y (by simp)) (p a (by simp)) _) (by simp only[k6,zk,VV,seval]) ?_;have E:X d<X (d++(j++a::y::c)):=by simp<;>omega
 have L:(X d:Int)<(X (d++(j++a::y::c)):Int):=by omega
 have Q:(0:Int)<=(X d:Int):=by omega
 simp only[s,t,T,W,B,D,Q,E,L,V.pure,ab,aed _ _ E,z,lF,VV,seval];refine⟨λh=>?_,λh=>?_⟩
 .have h:q y a=Z:=by simpa using h
  have e:d++mf q a (y::c)=(d++[y])++mf q y c:=by simp[mf,h]
  rw[e]at o;rw[show d++y::((j++[a]).tail++y::c)=(d++[y])++((j++[a]).tail++y::c)by simp];refine v _ (bL ?_ (ih (d++[y]) (j++[a]).tail y (k+1) (by simp;omega) (by omega) (by omega) (λx u=>p x (cd _ u)) o));repeat' constructor
 have h:q y a=G:=by simpa using h
 have e:mf q a (y::c)=mf q y c:=by simp[mf,h]
 rw[e]at o;rw[show d++(j++a::y::c)=d++((j++[a])++y::c)by simp];refine v _ (bL ?_ (ih d (j++[a]) y (k+1) (by simp;omega) (by omega) (by omega) (λx u=>p x (cd _ u)) o));repeat' constructor
def Xl{KK:bG}{id g:Nat}(n:id<X U)(f:Nat)(E:Gv A f=true)(q:bf->bf->Bool)(H:∀x y:bf,x.axZ->y.axZ->∀U,bh A f [.agg x.axV,.agg y.axV] U (.b (q x y)))(l:List bf)(z:∀x∈l,x.axZ)(hn:X l<2^30): ∀(c d:List bf) (p:bf),l=d++p::c ->(mf q p c=c->((fh (.own id g) (fj 65 fo)) λv=>KK (.exit 0) ⟨v,U.set id (fy g Z l)⟩)) ->(∀(m:Nat) (o:eJ),m<=X o->o.take m=(d++p::mf q p c).map bf.axV->((fj 4 (fh (.sub id g 0 m) (fj 61 fo))) λv=>KK .ret ⟨v,U.set id (.row 57 13 184 g Z o)⟩)) ->gF (X U) A Mt KK (X c+1) ⟨(.own id g::.fn f []::uu 3 (.I ((X d+1:Nat):Int)::uu 60 [])),U.set id (fy g Z l)⟩:=by
 have s:∀K:Ob,(U.set id K)[id]?=S K:=λK=>aN n;intro c;induction c with
 |nil =>
  intro d p e r k;have W:decide (((X d+1:Nat):Int)<(X l:Int))=Z:=by rw[e];simp
  refine aD λR J=>?_;simp only[Mt,fy,s,W,ab,VV,seval];exact r rfl ..
 |cons y c ih =>
 intro d p e r k;have hl:X l=X d+(X c+1+1):=by rw[e];simp
 have F:(0:Int)<=((X d+1:Nat):Int):=by omega
 have D:((X d+1:Nat):Int)<(X l:Int):=by omega
 have T:(0:Int)<=(X d:Int):=by omega
 have f3:(X d:Int)<(X l:Int):=by omega
 have V:((X d+1:Nat):Int)<=(X l:Int):=by omega
 have L:IntKind.i64.wrap (((X d+1:Nat):Int) - 1)=(X d:Int):=by rw[IntWalk.i64_in _ (by omega)];omega
 have Q:IntKind.i64.wrap (((X d+1:Nat):Int)+1)=((X (d++[p])+1:Nat):Int):=by rw[IntWalk.i64_in _ (by omega)];simp
 have w:=aef (l:=l) (i:=X d+1) (x:=y) (by rw[e];simp);have C:=aef (l:=l) (i:=X d) (x:=p) (by rw[e];simp);have u:=z y (by rw[e];simp);have Ng:=z p (by rw[e];simp);simp only[zk]at w C;refine aD λR J=>?_;simp only[Mt,fy,s,cZ,L,F,D,T,f3,w,C,al,ab,VV,seval];refine sF rfl E (H y p u Ng _) (by simp only[k6,zk,VV,seval]) ?_;simp only[s,w,Q,F,D,V,ab,al,VV,seval];refine⟨λh=>⟨kX _,?_⟩,λh=>?_⟩
 .have t:mf q p (y::c)=mf q y c:=by simp[mf,h]
  rw[t]at k;have hp:X (d++[p])=X d+1:=by simp
  have el:(d++[p])++([]++y::c)=l:=by rw[e];simp
  have B:=λKK=>Xm (KK:=KK) (g:=g) n f E q H (X l) (X d+1) hn c (d++[p]) [] y 1 (by simp) (aB _) (by omega) (λx P=>z x (by rw[e];exact uY _ (cd _ P)));rw[el,hp]at B;refine cD.wk (Wk.fG ?_) (cD.mM (X c+1) (B _ ?_));.repeat' constructor
  intro j hj;simp only[JE];intros;clear B;have O:d++p::mf q y c=(d++[p])++mf q y c:=by simp
  rw[O]at k;generalize (d++[p])++mf q y c=out at *;have SO:(0:Int)<=(X out:Int):=by omega
  have M:(X out:Int)<=(X (out++j):Int):=by simp only[ae];omega
  simp only[fy,s,SO,M,ab,al,lF,VV,seval];have N:(List.map bf.axV (out++j)).take (X out)=out.map bf.axV:=by simp
  rw[N];exact⟨kX _,Yw.2 (by rw[ae,ab];omega),k (X out) _ (by rw[ae,ab];omega) (by simp) ..⟩
 have t:mf q p (y::c)=y::mf q y c:=by simp[mf,h]
 rw[t]at r k;refine J _ (bL ?_ (ih (d++[p]) y (by rw[e];simp) (λhh=>r (by rw[hh])) (λm o a b=>k m o a (by rw[b];simp))));repeat' constructor
def Tj(s:Gv A m=true)(q:bf->bf->Bool)(o:∀x y:bf,x.axZ->y.axZ->∀J,bh A m [.agg x.axV,.agg y.axV] J (.b (q x y)))(l:List bf)(v:∀x∈l,x.axZ)(z:X l<2^30)(id g:Nat)(J:ai)(f:J[id]?=S (fy g Z l)): PC A 118 [.own id g,.fn m []] J (λr n=>∃j,r=.own id j/\n=J.set id (fy j Z (mu q l))):=by
 have d:id<X J:=(ag.1 f).1;have t:∀K:Ob,(J.set id K)[id]?=S K:=λK=>aN d;have i:J.set id (fy g Z l)=J:=CQ f;refine aT func118 an9.2 λC D=>an ?_;have e:=f;simp only[fy]at e;simp only[an9,SS,seval];simp only[e,ab,VV,seval];refine⟨λh=>?_,λh=>?_⟩
 .have h:X l<2:=by simp at h;omega
  have B:mu q l=l:=by
   rcases l with _|⟨x,_|⟨y,r⟩⟩;.rfl
   .rfl
   simp at h<;>omega
  exact fp rfl (Wk.refl _ _) rfl ⟨g,rfl,by rw[B,i]⟩
 have h:2<=X l:=by simp at h;omega
 obtain⟨p,c,rfl⟩:∃p c,l=p::c:=by
  rcases l with _|⟨x,r⟩;.simp at h
  exact⟨x,r,rfl⟩
 have k:=λKK=>Xl (KK:=KK) (g:=g) d m s q o (p::c) v z c [] p rfl;rw[i]at k;refine cD.wk (Wk.fG ?_) (cD.mM (X c+1) (k _ ?_ ?_));.repeat' constructor
 .intro u;simp only[JE];intros;simp only[VV,seval];exact fp rfl (Wk.refl _ _) rfl ⟨g,rfl,by simp only[mu];rw[u,i]⟩
 intro a E F w;simp only[JE];intros;simp only[VV,seval];refine fp rfl (Wk.ak1 (t _) 0 rfl) rfl ⟨g+1,rfl,?_⟩;rw[lF,w];rfl
def Sx(b:bf)(d:x.axZ)(c:b.axZ)(J:ai):bh A 119 [.agg x.axV,.agg b.axV] J (.b (kr x b==0)):=by refine aT func119 an8.2 λa e=>an ?_;simp only[an8,SS,seval];simp only[k6,zk,VV,seval];refine ak (ru x b d c _) (by simp only[k6,zk,VV,seval]) ?_;simp only[VV,seval];exact gL a (by rfl) (by simp[LW])
def Na:(prog.info? 99).map (·.size)=S 2:=by kernel_rfl
def Cj(n i:Nat)(a:List Value):Array Value :=((R.toList.take (i*2)++a++(R.toList.take (n*2)).drop (i*2))++R.toList.drop ((n+1)*2)).toArray
set_option maxRecDepth 100000 in
def IS(n c i f d l:Nat)(a:Array Value)(b:List Value)(w:bF)(hi:i<n)(uK:n+1<=c)(af:c<=9223372036854775807)(T:f≠m) (s:w.heap[m]?=S (.cells a 99 (0,0))) (o:a.size=c*2) (U:X b=2) (Du:∀j v,b[j]?=S v->w.cell? ⟨f,d+j,Y⟩=S v) (E:∀v∈a.toList.take (n*2),v.oneCell'=G) (t:∀v∈b,v.oneCell'=G) (N P:TypeId) (K L:Nat) (y:w.shape? f=S (N,K)) (z:w.shape? m=S (P,L)) (x:L≠0) (Dz:w.frozen? ⟨f,d,Y⟩=Z) (H:w.frozen? ⟨f,K,Y⟩=Z) : Calls A 94 #[.slice (S ⟨m,0,Y⟩) n c,.int .i64 i,.slice (S ⟨f,d,Y⟩) 1 l] w λe V =>e=.returned (.slice (S ⟨m,0,Y⟩) (n+1) c)/\V=w.drew.setRow m (Cj a n i b):=by
 have u:∀I D,(callFunc 147 #[.slice (S ⟨f,d,Y⟩) 1 l,.slice (S ⟨m,(i+1)*2,Y⟩) I D]).run A w=.ok (.value (.bool Z)) w:=λI D=>by
  rw[run_callFunc_extern func147 (by kernel_rfl) (by kernel_rfl) (by kernel_rfl) (e:=Extern.SlicesOverlaps.overlaps #[27,27] #[4]) (by kernel_rfl),
   Lib.run_overlaps_apart w 27 4 99 underlying27 2 (λw=>Tryz.sizeOf99 w) ⟨f,d,Y⟩ ⟨m,(i+1)*2,Y⟩ 1 l I D T N P K L y z x Dz H];rfl
 have Nd:IntKind.i64.wrap ((i:Int)+1)=(i:Int)+1:=by rw[IntKind.wrap_i64];omega
 have Dt:IntKind.i64.wrap ((n:Int)+1)=(n:Int)+1:=by rw[IntKind.wrap_i64];omega
 have ac:¬((i:Int)=(n:Int)):=by omega
 have VB:(0:Int)<=(i:Int)+1:=by omega
 have EM:i<=n:=by omega
 have YB:((i:Int)+1).toNat=i+1:=by omega
 have ap:((n:Int)+1).toNat=n+1:=by omega
 have qo:¬(c=i+1):=by omega
 have am:(i:Int)<=(n:Int)+1:=by omega
 have ad:¬(c=i):=by omega
 have O:=underlying27;have p:X ((a.toList.take (n*2)).drop (i*2))=(n - i)*2:=by rw[bN,aX,aU,o,wa];have:n*2<=c*2:=bS _ (by omega);omega
 generalize q:(a.toList.take (n*2)).drop (i*2)=cs at p;have W:∀j v,cs[j]?=S v->(w.drew).cell? ((⟨m,i*2,Y⟩:Addr).add j)=S v:=by
  intro j v k;rw[<- q,dE,ft]at k;split at k;.rw[Addr.add_lit];simp only[World.cell?,show w.drew.heap[m]?=S (.cells a 99 (0,0))from s];simpa using k
  cases k
 have mixed:prog.follows Departure.mixedOrders=G:=by kernel_rfl
 have SN:Nat.min (n+1 - i) (n - i)=n - i:=Nat.min_eq_right (by omega);have B:∀h g sc,(Builtin.copy_ #[27,27] h #[.slice (S ⟨m,(i+1)*2,Y⟩) (n - i) g,.slice (S ⟨m,i*2,Y⟩) (n+1 - i) sc]).run A w.drew=.ok (goInt (Nat.min (n+1 - i) (n - i):Nat)) (w.drew.setRow m (a.toList.take ((i+1)*2)++cs++a.toList.drop ((i+1)*2+X cs)).toArray):=λh g sc =>
  oJ w.drew _ _ h 99 m ((i+1)*2) _ g ⟨m,i*2,Y⟩ _ sc a 99 cs 2 O Na s (by rw[p,SN]) W (by rw[p,o];omega)
   (λv hv=>E v (dR (q▸hv)));generalize Q:(a.toList.take ((i+1)*2)++(cs++a.toList.drop ((i+1)*2+(n - i)*2))).toArray=cur1;have F:cur1.size=c*2:=by rw[<- Q];simp only[fa,ae,aX,bN,aU,p,o];omega
 have C:(w.drew.setRow m cur1).heap[m]?=S (.cells cur1 99 (0,0)):=setRow_heap w.drew m a cur1 99 (0,0) s;have Hb:Nat.min 1 (n+1 - i)=1:=fi (by omega);have r:∀h g,(Builtin.copy_ #[27,27] h #[.slice (S ⟨m,i*2,Y⟩) (n+1 - i) g,.slice (S ⟨f,d,Y⟩) 1 l]).run A (w.drew.setRow m cur1)=.ok (goInt (Nat.min 1 (n+1 - i):Nat)) ((w.drew.setRow m cur1).setRow m (cur1.toList.take (i*2)++b++cur1.toList.drop (i*2+X b)).toArray):=λh g =>
  oJ _ _ _ h 99 m (i*2) _ g ⟨f,d,Y⟩ _ l cur1 99 b 2 O Na C (by rw[U,Hb]) (λj v k=>by rw[Addr.add_lit];have M:=Du j v k;simp only[World.cell?,World.setRow,eu,ao (BM T)]at M |-;exact M) (by rw[U,F];omega) t;go_enter func94,Tryz.ntmps94;go_wp2_with (simp only[u]);go_region_law_o (refine step_copy_runI rfl _ _ 27 27 rfl _ _ (by simp[Act.eval,Act.put]) (by simp[Act.eval,Act.put]) (B _ _ _) ?_);go_wp2_with (at_builtin;refine wpList_copy_runI _ rfl _ _ 27 27 rfl _ _ rfl rfl (r _ _) ?_);go_ret;refine⟨rfl,?_⟩;rw[setRow_setRow];have J:X ((a.toList.take ((i+1)*2)))=(i+1)*2:=by rw[aX,aU,o];omega
 have R:cur1.toList=a.toList.take ((i+1)*2)++(cs++a.toList.drop ((i+1)*2+(n - i)*2)):=by rw[<- Q]
 have e2:cur1.toList.take (i*2)=a.toList.take (i*2):=by rw[R,dI (by rw[J];omega),mL,fi (by omega)]
 have e3:cur1.toList.drop (i*2+2)=cs++a.toList.drop ((n+1)*2):=by rw[R,ot (by rw[J];omega),oH (by rw[J];omega),aw];congr 2;omega
 rw[e2,e3,Cj,q];simp only[aJ]
set_option maxRecDepth 100000 in
def M8(g n i q d vc:Nat)(b:Array Value)(c:List Value)(w:bF)(hi:i<n)(a3:n<=2^30) (R:w.heap[g]?=S (.cells b 99 (0,0))) (y:b.size=n*2) (D:X c=2) (Du:∀j v,c[j]?=S v->w.cell? ⟨q,d+j,Y⟩=S v) (M:∀v∈b.toList,v.oneCell'=G) (U:∀v∈c,v.oneCell'=G) (Q:q<w.heap.size) : Calls A 94 #[.slice (S ⟨g,0,Y⟩) n n,.int .i64 i,.slice (S ⟨q,d,Y⟩) 1 vc] w λe w' =>∃(a:Nat) (row:Array Value),e=.returned (.slice (S ⟨w.heap.size,0,Y⟩) (n+1) a)/\n+1<=a/\a<=maxLen/\row.size=a*2 /\row.toList.take ((n+1)*2)=b.toList.take (i*2)++c++b.toList.drop (i*2)/\w'.heap[w.heap.size]?=S (.cells row 99 (0,0))/\w.grownBy w' Y:=by
 obtain⟨i0,z,XE,P,V,F,pD⟩:=ql (T:=99) (n:=2) (by':=16) (by kernel_rfl);have W:=underlying27;have hI:=underlying3;have mixed:prog.follows Departure.mixedOrders=G:=by kernel_rfl
 have K:g<w.heap.size:=(cB.1 R).1;have o:(Builtin.firstCells i0.size i (.slice (S ⟨g,0,Y⟩) i n)).run A w.drew=.ok (b.toList.take (i*2)).toArray w.drew:=by
  rw[V];exact run_firstCells_some w.drew 2 i ⟨g,0,Y⟩ i n (b.toList.take (i*2)) (by rw[aX,aU,y];omega) (λj v m=>by
   rw[Addr.add_lit];rw[ft]at m;split at m;.simp only[World.cell?,show w.drew.heap[g]?=S (.cells b 99 (0,0))from R];simpa using m
   cases m)
 have t:i+(n+1 - i)=n+1:=by omega
 have Q9:(n:Int)+1 - (i:Int)=((n+1 - i:Nat):Int):=by omega
 have r:∀f,(Builtin.append_ #[27,3] f #[.slice (S ⟨g,0,Y⟩) i n,.int .i64 ((n:Int)+1 - (i:Int))]).run A w =
   .ok (.slice (S ⟨w.heap.size,0,Y⟩) (n+1) (grownCap w (n+1) n 99)) (w.drew.alloc (.cells ((b.toList.take (i*2)).toArray++Builtin.zeroCells z.cells (n+1 - i)++Builtin.zeroCells z.cells (grownCap w (n+1) n 99 - (n+1))) 99)):=λf=>by have h:=Lib.run_append_grow_zeros w 27 3 f 99 i0 z .i64 .i64 W hI XE P (S ⟨g,0,Y⟩) i n (b.toList.take (i*2)) o (n+1 - i) (by omega) (by omega) (by omega) (by omega) (by rw[F];omega) (by rw[F,t];exact growslice_fits (by omega) (by omega));rw[t]at h;rw[Q9];exact h
 have I:n+1<=grownCap w (n+1) n 99:=grownCap_ge w _ _ _;have s:grownCap w (n+1) n 99<=maxLen:=grownCap_le_maxLen w _ _ _ (by unfold maxLen;omega);generalize hG:grownCap w (n+1) n 99=a at r I s;have SI:∀k,(Builtin.zeroCells z.cells k).size=k*2:=λk=>by simp[Builtin.zeroCells,pD]
 have l:((b.toList.take (i*2)).toArray++Builtin.zeroCells z.cells (n+1 - i)++Builtin.zeroCells z.cells (a - (n+1))).size=a*2:=by rw[jG,jG,SI,SI,fa,aX,aU,y];omega
 have E:((b.toList.take (i*2)).toArray++Builtin.zeroCells z.cells (n+1 - i)++Builtin.zeroCells z.cells (a - (n+1))).toList.take (i*2)=b.toList.take (i*2):=by
  have B:X (b.toList.take (i*2))=i*2:=by rw[aX,aU,y];omega
  simp only[yF,aJ];rw[dI (by rw[B];exact aB _),cc (by rw[B];exact aB _)]
 generalize ad:(b.toList.take (i*2)).toArray++Builtin.zeroCells z.cells (n+1 - i)++Builtin.zeroCells z.cells (a - (n+1))=ROW at r l E;have ap:¬((i:Int)=(n:Int)):=by omega
 have au:(n:Int)<(n:Int)+1:=by omega
 have Nd:IntKind.i64.wrap ((i:Int)+1)=(i:Int)+1:=by rw[IntKind.wrap_i64];omega
 have Dt:IntKind.i64.wrap ((n:Int)+1)=(n:Int)+1:=by rw[IntKind.wrap_i64];omega
 have am:IntKind.i64.wrap ((n:Int)+1 - (i:Int))=(n:Int)+1 - (i:Int):=by rw[IntKind.wrap_i64];omega
 have VB:(0:Int)<=(i:Int)+1:=by omega
 have EM:i<=n:=by omega
 have YB:((i:Int)+1).toNat=i+1:=by omega
 have a4:(i:Int)<=(n:Int):=by omega
 have aM:(i:Int)<=(n:Int)+1:=by omega
 have aE:a<=9223372036854775807:=by unfold maxLen at s;omega
 have av:¬(a=i):=by omega
 have a0:¬(a=i+1):=by omega
 have a2:¬(n=i):=by omega
 have L:¬(w.heap.size=g):=by omega
 have a1:¬(w.heap.size=q):=by omega
 have u:(w.alloc (.cells ROW 99)).drew.heap[w.heap.size]?=S (.cells ROW 99 (0,0)):=heap_alloc_new w _;have Hb:Nat.min 1 (n+1 - i)=1:=fi (by omega);have ac:Nat.min (n - i) (n - i)=n - i:=fi (aB _);have C:∀f p,(Builtin.copy_ #[27,27] f #[.slice (S ⟨w.heap.size,i*2,Y⟩) (n+1 - i) p,.slice (S ⟨q,d,Y⟩) 1 vc]).run A (w.alloc (.cells ROW 99)).drew =
   .ok (goInt (Nat.min 1 (n+1 - i):Nat)) ((w.alloc (.cells ROW 99)).drew.setRow w.heap.size (ROW.toList.take (i*2)++c++ROW.toList.drop (i*2+X c)).toArray):=λf p =>
  oJ _ _ _ f 99 w.heap.size (i*2) _ p ⟨q,d,Y⟩ _ vc ROW 99 c 2 W Na u (by rw[D,Hb]) (λj v m=>by rw[Addr.add_lit];exact(World.cell?_alloc_past (w:=w) _ q (d+j) Q).trans (Du j v m)) (by rw[D,l];omega) U;have af:X (ROW.toList.take (i*2)++c++ROW.toList.drop (i*2+X c))=a*2:=by simp only[ae,aX,bN,aU,l,D];omega
 generalize x:(ROW.toList.take (i*2)++c++ROW.toList.drop (i*2+X c)).toArray=RA at C;have H:RA.size=a*2:=by rw[<- x,fa,af]
 have J:((w.alloc (.cells ROW 99)).drew.setRow w.heap.size RA).drew.heap[w.heap.size]?=S (.cells RA 99 (0,0)):=setRow_heap _ w.heap.size ROW RA 99 (0,0) u;have bd:X (b.toList.drop (i*2))=(n - i)*2:=by rw[bN,aU,y,wa]
 have O:∀f p sc,(Builtin.copy_ #[27,27] f #[.slice (S ⟨w.heap.size,(i+1)*2,Y⟩) (n - i) p,.slice (S ⟨g,i*2,Y⟩) (n - i) sc]).run A ((w.alloc (.cells ROW 99)).drew.setRow w.heap.size RA).drew = .ok (goInt (Nat.min (n - i) (n - i):Nat)) (((w.alloc (.cells ROW 99)).drew.setRow w.heap.size RA).drew.setRow w.heap.size (RA.toList.take ((i+1)*2)++b.toList.drop (i*2)++RA.toList.drop ((i+1)*2+X (b.toList.drop (i*2)))).toArray):=λf p sc =>oJ _ _ _ f 99 w.heap.size ((i+1)*2) _ p ⟨g,i*2,Y⟩ _ sc RA 99 (b.toList.drop (i*2)) 2 W Na J (by rw[bd,ac]) (λj v m=>by
   rw[Addr.add_lit];rw[dE]at m;have h0:(w.alloc (.cells ROW 99)).heap[g]?=S (.cells b 99 (0,0)):=by rw[Below.heap_alloc w _ g K];exact R
   have h1:((w.alloc (.cells ROW 99)).drew.setRow w.heap.size RA).drew.heap[g]?=S (.cells b 99 (0,0)):=by simp only[World.setRow,World.drew,eu,ao L];exact h0
   simp only[World.cell?,h1];simpa using m) (by rw[bd,H];omega) (λv hv=>M v (dR hv));clear Q9 t o ad hG l;go_enter func94,Tryz.ntmps94;go_wp2_with (first
  |(at_builtin;refine Lib.wpList_append_run _ rfl _ _ _ _ rfl _ _ rfl rfl _ _ (r _) ?_)
  |(at_builtin;refine wpList_copy_runI _ rfl _ _ 27 27 rfl _ _ rfl rfl (C _ _) ?_));go_region_law_o (refine step_copy_runI rfl _ _ 27 27 rfl _ _ (by simp[Act.eval,Act.put]) (by simp[Act.eval,Act.put]) (O _ _ _) ?_);go_wp2;go_ret;have eX:X (b.toList.take (i*2))=i*2:=by rw[aX,aU,y];omega
 have e1:RA.toList=b.toList.take (i*2)++(c++ROW.toList.drop (i*2+X c)):=by rw[<- x,<- E,aJ]
 have e2:RA.toList.take ((i+1)*2)=b.toList.take (i*2)++c:=by
  have B:X (b.toList.take (i*2)++c)=(i+1)*2:=by rw[ae,eX,D];omega
  rw[e1,<- List.append_assoc,dI (by rw[B];exact aB _),cc (by rw[B];exact aB _)]
 have N:X (RA.toList.take ((i+1)*2)++b.toList.drop (i*2))=(n+1)*2:=by rw[e2,ae,ae,eX,D,bd];omega
 refine⟨a,_,rfl,I,s,?_,?_,setRow_heap _ _ RA _ 99 (0,0) J,?_⟩;.rw[fa,<- List.append_assoc,ae,N,bN,aU,H];omega
 .show List.take ((n+1)*2) (RA.toList.take ((i+1)*2)++(b.toList.drop (i*2)++RA.toList.drop ((i+1)*2+(n - i)*2)))=_;rw[<- List.append_assoc,dI (by rw[N];exact aB _),cc (by rw[N];exact aB _),e2]
 refine⟨rfl,rfl,rfl,?_,λk hk _=>?_⟩;.simp only[World.setRow,World.drew,tZ,World.alloc,Array.size_push];omega
 simp only[World.setRow,World.drew,eu,ao (show ¬w.heap.size=k by omega)];exact Below.heap_alloc w _ k hk
def P2(l:fF)(x:Int×Int)(m id h g g2:Nat)(ad:Bool)(hm:m<X l)(hl:X l<2^30)(J:ai)(T:id≠h)(h1:J[id]?=S (.row 99 2 16 g Z (l.map ct)))(U:J[h]?=S (.row 99 2 16 g2 ad [ct x])): PC A 94 [.own id g,.I m,.own h g2] J (λr J'=>r=.own id (g+1)/\J'=J.set id (.row 99 2 16 (g+1) Z ((l.take m++x::l.drop m).map ct))):=by
 refine PC.aac h1 λB w0 w μ vs L o=>?_;have O:=o.2 0 _ rfl;have a1:=(o.2 1 _ rfl).jy;have Q:=o.2 2 _ rfl;have O:=O.lP h1;have Q:=Q.lP U;obtain⟨_,d,N,dJ⟩:=L.obj id _ h1;obtain⟨_,c,G8,Qa⟩:=L.obj h _ U;have e:vs=#[μ id,.int .i64 m,μ h]:=by obtain⟨q⟩:=vs;match q,o.1 with|[u,v,y],_=>simp at O a1 Q;rw[O,a1,Q]
 rw[e];have o1:=lU.one L dJ N.1;have o2:=lU.one L Qa G8.1;rcases N.2 with⟨_,hn⟩|⟨s,i,f,vt,hB,H,Ha,zU,t,F⟩;.rw[ab]at hn;omega
 rcases G8.2 with⟨_,hn⟩|⟨K,p,C,M,am,z,au,ap,af,W⟩;.simp at hn
 have vW:X (l.map ct)=X l:=ab ..;rw[vW]at vt Ha F N;have Vs:K≠s:=λe=>T (L.sep id h _ _ s h1 U (by simp) (by simp) (by rw[vt];rfl) (by rw[M,e];rfl));have R:X c=2:=by simpa using G8.1
 have Ke:X d=X l*2:=by rw[N.1]
 have Du:∀j v,c[j]?=S v->w.cell? ⟨K,0+j,Y⟩=S v:=by
  intro j v P;rw[<- W,ft]at P;split at P;.simp only[World.cell?,z,aP];simpa using P
  cases P
 have ac:K<w.heap.size:=(cB.1 z).1;have n:X ((l.take m++x::l.drop m).map ct)=X l+1:=by simp;omega
 have D:lU w J μ ((l.take m++x::l.drop m).map ct) 2 (d.take (m*2)++c++d.drop (m*2)):=by have:=OL (r:=ct x) dJ (by rw[vW];exact Ke) Qa R m (by rw[vW];omega);simpa[fM,kI]using this
 have E:X (d.take (m*2)++c++d.drop (m*2))=(X l+1)*2:=by simp only[ae,aX,bN,Ke,R];omega
 rw[vt,M];by_cases uK:X l+1<=i
 .refine(IS s (X l) i m K 0 p f c w hm uK (by unfold maxLen at zU;omega) Vs H t R Du (λv o=>o1 v (F▸o)) o2 99 99 C.size f.size (by simp[World.shape?,z]) (by simp[World.shape?,H]) (by rw[t];omega) (by simp[World.frozen?,z]) (by simp[World.frozen?,z])).mono ?_;rintro e w' ⟨rfl,rfl⟩;refine⟨_,_,rfl,?_,λb V=>.inl V,?_,D⟩
  .refine⟨rfl,rfl,rfl,?_,λk hk T=>?_⟩;.simp only[World.setRow,World.drew,tZ];exact aB _
   have ub:¬s=k:=λe=>T (by rw[e];rfl);simp only[World.setRow,World.drew,eu,ao ub]
  rw[n];have e1:f.toList.take (m*2)=d.take (m*2):=by rw[<- F,mL,fi (by omega)]
  have e2:(Cj f (X l) m c).toList=(d.take (m*2)++c++d.drop (m*2))++f.toList.drop ((X l+1)*2):=by rw[Cj,F,e1]
  refine⟨E,.inr ⟨s,i,_,rfl,hB,setRow_heap w.drew s f _ 99 (0,0) H,uK,zU,?_,?_⟩⟩;.have e3:(Cj f (X l) m c).size=X (Cj f (X l) m c).toList:=aU.symm;rw[e3,e2,ae,E,bN,(show X f.toList=i*2 from by rw[aU,t])];omega
  rw[e2,dI (by rw[E];exact aB _),cc (by rw[E];exact aB _)]
 have nP:i=X l:=by omega
 subst nP;have ky:f.toList=d:=by rw[<- F,cc (by rw[aU,t];exact aB _)]
 refine(M8 s (X l) m K 0 p f c w hm (by omega) H t R Du (λv o=>o1 v (ky▸o)) o2 ac).mono ?_;rintro e w' ⟨a,row,rfl,q1,q2,q3,q4,q5,q6⟩;refine⟨_,_,rfl,?_,λb V=>.inr ?_,?_,D⟩;.obtain⟨p1,p2,p3,p4,p5⟩:=q6;exact⟨p1,p2,p3,p4,λk hk T=>p5 k hk (by simp)⟩
 .simp only[l9,aa]at V;omega
 rw[n];refine⟨E,.inr ⟨w.heap.size,a,row,rfl,by have:=(cB.1 H).1;omega,q5,q1,q2,q3,?_⟩⟩;rw[q4,ky]
set_option maxRecDepth 20000 in
def BP(a b:En)(J:ai):bh A 125 [.agg a.axV,.agg b.axV] J (.b (Eo a b)):=by
 refine aT func125 an2.2 λc e=>an ?_;simp only[an2,SS,seval];simp only[En.axV,VV,seval];refine ak (th a.ax3 b.ax3 _) rfl ?_;simp only[VV,seval];have d:Eo a b=(iJ a.ax3 b.ax3&&(iJ a.ax4 b.ax4&&(a.cJ==b.cJ&&(a.next==b.next&&(a.dL==b.dL&&(a.dh==b.dh&&(a.ayd==b.ayd&&a.ayf==b.ayf))))))):=rfl;rw[d];refine cm (by simp only[VV,seval]<;>rfl) (λ_=>th a.ax4 b.ax4 _) rfl ?_;simp only[VV,seval];cases iJ a.ax3 b.ax3<;>simp only[VV,seval];.exact gL c (by rfl) (by simp[LW])
 cases iJ a.ax4 b.ax4<;>simp only[VV,seval];.exact gL c (by rfl) (by simp[LW])
 cases a.cJ==b.cJ<;>simp only[VV,seval];.exact gL c (by rfl) (by simp[LW])
 cases a.next==b.next<;>simp only[VV,seval];.exact gL c (by rfl) (by simp[LW])
 cases a.dL==b.dL<;>simp only[VV,seval];.exact gL c (by rfl) (by simp[LW])
 cases a.dh==b.dh<;>simp only[VV,seval];.exact gL c (by rfl) (by simp[LW])
 cases a.ayd==b.ayd<;>simp only[VV,seval];.exact gL c (by rfl) (by simp[LW])
 exact gL c (by rfl) (by simp[LW])
def ae6(z:bW U)(a b:List En)(r:X a<2^62)(q:X a=X b):∀(f d c l:List En),a=c++f->b=l++d->X c=X l ->(kG f d=G->∀j,((fj 32 fo) λn=>Q (.exit 0) ⟨n,U++j⟩))->(kG f d=Z->∀j,((fj 6 (fh (.b Z) (fj 25 fo))) λn=>Q .ret ⟨n,U++j⟩)) ->gF (X U) A Mp Q (X f+1) ⟨(uu 1 (.sl 8 (b.map En.axV)::.fn 125 []::uu 12 (.sl 8 (a.map En.axV)::.I (X a)::.I (X c)::uu 14 []))),U⟩:=by
 intro f;induction f with
 |nil =>
  intro d c l g k o i m;have:d=[]:=by subst g;subst k;simp at q;exact bQ (by omega)
  subst this;have g:=dH g;subst g;have i:=i rfl [];rw[bE]at i;refine aD λR v=>?_;simp only[Mp,VV,seval];exact⟨λh=>by simp at h,λ_=>i ..⟩
 |cons x f ih =>
 intro d c l g k o i m;cases d with
 |nil=>subst g;subst k;simp at q;omega
 |cons y d =>
 have C:=ko g;have u:(a.map En.axV).getD (X c) []=x.axV:=by rw[g];exact gA
 have s:(b.map En.axV).getD (X c) []=y.axV:=by rw[k,o];exact gA
 have t:=eE c x (by omega);have w:(0:Int)<=(X c:Int):=by omega
 have B:(X c:Int)<(X a:Int):=by omega
 have p:(X c:Int)<(X b:Int):=by omega
 simp only[En.axV]at u s;refine aD λR v=>?_;simp only[Mp,al,u,s,w,B,p,t,cZ,ab,VV,seval];refine sF rfl (by kernel_rfl) (BP x y _) (by simp only[En.axV,VV,seval]) ?_;simp only[t,VV,seval];refine⟨λh=>?_,λh=>?_⟩
 .have h:Eo x y=Z:=by rw[dt]at h;exact h
  exact m (by simp[kG,h]) ..
 have h:Eo x y=G:=by rw[eI]at h;exact h
 have e:kG (x::f) (y::d)=kG f d:=by simp[kG,h]
 rw[e]at i m;refine v _ (dn [] [_,_] (by rw[bE];exact z) ?_ ?_ (by rw[bE];exact ih d (c++[x]) (l++[y]) (by rw[g];simp) (by rw[k];simp) (by simp[o]) i m));.repeat' constructor
 simp only[LW,aoy]
def Nw(a b:List En)(c:X a<2^62)(J:ai):bh A 124 [.sl 8 (a.map En.axV),.sl 8 (b.map En.axV),.fn 125 []] J (.b (kG a b)):=by
 refine aT func124 an3.2 λd g=>an ?_;simp only[an3,SS,seval];simp only[ab,VV,seval];refine⟨λh=>?_,λh=>?_⟩
 .have h:X a≠X b:=by simp at h;omega
  have e:kG a b=Z:=by cases f:kG a b with|false=>rfl|true=>exact absurd (Ku f) h
  exact bt rfl ⟨by rw[e];rfl,rfl⟩
 have h:X a=X b:=by simp at h;omega
 refine cD.bL ?_ (X a+1) (ae6 d a b c h a b [] [] rfl rfl rfl (λc=>?_) (λc=>?_));.repeat' constructor
 .simp only[JE];intros;simp only[VV,seval];exact aS d rfl (by simp[LW]) ⟨by rw[c];rfl,rfl⟩
 simp only[JE];intros;exact aS d rfl (by simp[LW]) ⟨by rw[c];rfl,rfl⟩
def adF(a b:List En)(c:X a<2^62)(J:ai):bh A 66 [.sl 8 (a.map En.axV),.sl 8 (b.map En.axV)] J (.b (kG a b)):=by refine aT func66 p66.2 λd e=>an ?_;simp only[p66,SS,seval];simp only[VV,seval];refine ak (Nw a b c _) rfl ?_;simp only[VV,seval];exact bt rfl ⟨rfl,rfl⟩
def Ju(a:List bX):Bool:=match a with|[]=>G|p::_=>a.all λo=>!o.down&&kG (dC o.axX) (dC p.axX)
def zY(l:List En):kG l l=G:=by induction l with|nil=>rfl|cons x r ih=>simp only[kG,aV];exact⟨By.2 rfl,ih⟩
def aiL{K:bG}(T:bW U)(b:Ob)(n:Net)(hb:b=.box 29 n.axV)(p:bX)(y:List bX)(H:n.aM=p::y)(P:X n.aM<2^30)(V:∀o∈n.aM,o.axZ):∀(d a:List bX),n.aM=a++d->(a≠[]->p.down=Z) ->(d.all (λo=>!o.down&&kG (dC o.axX) (dC p.axX))=G->∀D,((fj 31 fo) λJ=>K (.exit 0) ⟨J,U++D⟩))->(d.all (λo=>!o.down&&kG (dC o.axX) (dC p.axX))=Z->∀D,((fj 2 (fh (.b Z) (fj 28 fo))) λJ=>K .ret ⟨J,U++D⟩)) ->gF (X U) A JY K (X d+1) ⟨(uu 1 (.ptr (X U) 0::uu 4 (.sl 6 (n.aM.map bX.axV)::.I (X n.aM)::.I (X a)::uu 22 []))),U++[b]⟩:=by
 intro d;induction d with
 |nil =>
  intro a z Q F E;have z:n.aM=a:=by simpa using z
  refine aD λR M=>?_;simp only[JY,z,VV,seval];exact⟨λh=>by simp at h,λ_=>F rfl ..⟩
 |cons o d ih =>
 intro a z Q F E;subst hb;have hl:X n.aM=X a+(X d+1):=by rw[z];simp
 have N:=V o (by rw[z];simp);have s:=eE a o (by omega);have m:(n.aM.map bX.axV).getD (X a) []=o.axV:=by rw[z];exact gA
 have r:(0:Int)<=(X a:Int):=by omega
 have t:(X a:Int)<(X n.aM:Int):=by omega
 simp only[bX.axV]at m;have w:(0:Int)<(X n.aM:Int):=by omega
 have q:(n.aM.map bX.axV).getD 0 []=p.axV:=by rw[H];rfl
 have Ng:=V p (by rw[H];simp);simp only[bX.axV]at q;refine aD λR M=>?_;have f:(G==Z)=Z:=rfl;have i:(Z==Z)=G:=rfl;have g:(G==G)=G:=rfl;have j:(Z==G)=Z:=rfl;cases e:o.down
 .by_cases C:a=[]
  .subst C;have W:p=o/\y=d:=by rw[H]at z;simpa using z
   obtain⟨rfl,rfl⟩:=W;have B:decide ((0:Int)<(0:Int))=Z:=rfl;have O:(X ([]:List bX):Int)=0:=rfl;have m:=q;rw[O]at r t s;rw[O];simp only[JY,Net.axV,m,q,r,t,w,e,s,B,cZ,dZ,ab,al,f,i,g,j,dq,cN,db,dU,VV,seval];refine⟨.u,?_⟩;refine cm (c:=Z) (v:=.u) (by simp only[f,i,g,j,dq,cN,db,dU,VV,seval]<;>rfl) (λh=>by cases h) rfl ?_;simp only[bX.axV,m,q,r,t,w,e,s,cZ,dZ,ab,f,i,g,j,dq,cN,db,dU,VV,seval];refine cm (c:=Z) (v:=.u) (by simp only[f,i,g,j,dq,cN,db,dU,VV,seval]<;>rfl) (λh=>by cases h) rfl ?_;simp only[bX.axV,m,q,r,t,w,e,s,cZ,dZ,ab,f,i,g,j,dq,cN,db,dU,VV,seval];refine cm (c:=Z) (v:=.b Z) (by simp only[f,i,g,j,dq,cN,db,dU,VV,seval]<;>rfl) (λh=>by cases h) rfl ?_;simp only[bX.axV,m,q,r,t,w,e,s,cZ,dZ,ab,f,i,g,j,dq,cN,db,dU,VV,seval];have L:=ih ([]++[p]) (by rw[H];rfl) (λ_=>e) (λx=>F (by simp only[im,e,zY,x];rfl)) (λx=>E (by simp only[im,e,zY,x];rfl));refine M _ (dn [.box 29 n.axV] [_] (by have:=cx T (l:=[.box 29 n.axV]) (by simp only[Net.axV,bV,bM,dp,dF,dm,LW]);exact this) ?_ ?_ L);.repeat' constructor
   simp only[Net.axV,LW,ah,aj,aP];omega
  have B:decide ((0:Int)<(X a:Int))=G:=by have:=fb.2 C;simp;omega
  have k:=Q C;have IV:X (dC o.axX)<2^62:=by have:=Bc o.axX;omega
  simp only[JY,Net.axV,m,q,r,t,w,e,s,B,k,cZ,dZ,ab,al,f,i,g,j,dq,cN,db,dU,VV,seval];refine⟨_,rfl,?_⟩;refine cm (c:=G) (by simp only[f,i,g,j,dq,cN,db,dU,VV,seval]<;>rfl) (λ_=>Cd o N e _) (by simp only[bX.axV,e,B,k,VV,seval]) ?_;simp only[bX.axV,m,q,r,t,w,e,s,cZ,dZ,B,k,ab,f,i,g,j,dq,cN,db,dU,VV,seval];refine cm (c:=G) (by simp only[f,i,g,j,dq,cN,db,dU,VV,seval]<;>rfl) (λ_=>Cd p Ng k _) (by simp only[bX.axV,e,B,k,VV,seval]) ?_;simp only[bX.axV,m,q,r,t,w,e,s,cZ,dZ,B,k,ab,f,i,g,j,dq,cN,db,dU,VV,seval];refine cm (c:=G) (by simp only[f,i,g,j,dq,cN,db,dU,VV,seval]<;>rfl) (λ_=>adF (dC o.axX) (dC p.axX) IV _) (by simp only[bX.axV,e,B,k,VV,seval]) ?_;simp only[bX.axV,m,q,r,t,w,e,s,cZ,dZ,B,k,ab,f,i,g,j,dq,cN,db,dU,VV,seval];refine⟨λx=>?_,λx=>?_⟩;.exact E (by simp only[im,e];rw[dt]at x;rw[x];rfl) ..
  have x:kG (dC o.axX) (dC p.axX)=G:=by rw[eI]at x;exact x
  have L:=ih (a++[o]) (by rw[z];simp) (λ_=>k) (λh=>F (by simp only[im,e,x,h];rfl)) (λh=>E (by simp only[im,e,x,h];rfl));refine M _ (dn [.box 29 n.axV] [_] (by have:=cx T (l:=[.box 29 n.axV]) (by simp only[Net.axV,bV,bM,dp,dF,dm,LW]);exact this) ?_ ?_ L);.repeat' constructor
  simp only[Net.axV,LW,ah,aj,aP];omega
 simp only[JY,Net.axV,m,q,r,t,w,e,s,cZ,dZ,ab,al,f,i,g,j,dq,cN,db,dU,VV,seval];refine⟨.u,?_⟩;refine cm (c:=Z) (v:=.u) (by simp only[f,i,g,j,dq,cN,db,dU,VV,seval]<;>rfl) (λh=>by cases h) rfl ?_;simp only[bX.axV,m,q,r,t,w,e,s,cZ,dZ,ab,f,i,g,j,dq,cN,db,dU,VV,seval];refine cm (c:=Z) (v:=.u) (by simp only[f,i,g,j,dq,cN,db,dU,VV,seval]<;>rfl) (λh=>by cases h) rfl ?_;simp only[bX.axV,m,q,r,t,w,e,s,cZ,dZ,ab,f,i,g,j,dq,cN,db,dU,VV,seval];refine cm (c:=Z) (v:=.b Z) (by simp only[f,i,g,j,dq,cN,db,dU,VV,seval]<;>rfl) (λh=>by cases h) rfl ?_;simp only[bX.axV,m,q,r,t,w,e,s,cZ,dZ,ab,f,i,g,j,dq,cN,db,dU,VV,seval];exact E (by simp only[im,e];rfl) ..
def VT(c:P.aM.length<2^30)(i:∀o∈P.aM,o.axZ)(k:P.aM≠[])(J:ai):bh A 23 [.agg P.axV] J (.b (Ju P.aM)):=by
 refine aT func23 p23.2 λd m=>an ?_;obtain⟨p,a,g⟩:∃p l,P.aM=p::l:=by cases h:P.aM with|nil=>exact absurd h k|cons p l=>exact⟨p,l,rfl⟩
 have j:Ju P.aM=P.aM.all λo=>!o.down&&kG (dC o.axX) (dC p.axX):=by rw[g];rfl
 have f:=λK=>aiL (K:=K) d (.box 29 P.axV) P rfl p a g c i P.aM [] rfl (λh=>absurd rfl h);rw[<- j]at f;simp only[Net.axV]at f;simp only[p23,SS,seval];simp only[Net.axV,ab,VV,seval];refine cD.wk (Wk.fG ?_) (cD.mM (P.aM.length+1) (f _ ?_ ?_));.repeat' constructor
 .intro e;simp only[JE];intros;simp only[VV,seval];exact aS d rfl (by simp[LW]) ⟨by rw[e];rfl,rfl⟩
 intro e;simp only[JE];intros;exact aS d rfl (by simp[LW]) ⟨by rw[e];rfl,rfl⟩
section
variable {J:ai} {K:bG} (n:Net)
def nN(n:Net):Ob:=.box 29 n.axV
def Rm(a:bW J):bW (J++[nN n,nN n]):=cx a (by simp only[nN,Net.axV,bV,bM,dp,dF,dm,LW])
def aaQ(g:n.axZ):∀(b a:List bX),n.aM=a++b->(((fj 2 (fh (.ptr (X J) 0) (fh (.ptr (X J+1) 0) (fj 108 fo)))) λi=>K (.exit 0) ⟨i,J++[nN n,nN n]⟩)) ->gF (X J) A U0 K (X b+1) ⟨(uu 2 (.ptr (X J) 0::.ptr (X J+1) 0::uu 32 (.I (X n.aM)::.I (X a)::uu 74 []))),J++[nN n,nN n]⟩:=by
 have m:=g.D5;intro b;induction b with
 |nil =>
  intro a c d;have c:n.aM=a:=by simpa using c
  refine aD λR f=>?_;simp only[U0,c,kJ,dZ,↓IT,VV,seval];exact d ..
 |cons o b ih =>
 intro a c d;have l:X n.aM=X a+(X b+1):=by rw[c];simp
 have h:=eE a o (by omega);have e:(n.aM.map bX.axV).getD (X a) []=o.axV:=by rw[c];exact gA
 have j:(0:Int)<=(X a:Int):=by omega
 have k:(X a:Int)<(X n.aM:Int):=by omega
 simp only[bX.axV]at e;refine aD λR f=>?_;simp only[U0,nN,Net.axV,al,e,j,k,cZ,ab,↓IT,VV,seval];refine ak (Fz o (g.bg o (by rw[c];simp)) _) (by simp only[bX.axV,VV,seval]) ?_;simp only[h,bb,↓IT,VV,seval];exact f _ (bL (by repeat' constructor) (ih (a++[o]) (by rw[c];simp) d))
def aaP(q:bW J)(r:n.axZ):∀(b a:List Let),n.aW=a++b->(((fj 2 (fh (.ptr (X J) 0) (fh (.ptr (X J+1) 0) (fj 108 fo)))) λm=>K (.exit 2) ⟨m,J++[nN n,nN n]⟩)) ->gF (X J) A UZ K (X b+1) ⟨(uu 2 (.ptr (X J) 0::.ptr (X J+1) 0::uu 50 (.sl 15 (n.aW.map Let.axV)::.I (X n.aW)::.I (X a)::uu 55 []))),J++[nN n,nN n]⟩:=by
 have u:=r.vZ;intro b;induction b with
 |nil =>
  intro a d g;have d:n.aW=a:=by simpa using d
  refine aD λR l=>?_;simp only[UZ,d,kJ,dZ,↓IT,VV,seval];exact g ..
 |cons o b ih =>
 intro a d g;have t:X n.aW=X a+(X b+1):=by rw[d];simp
 have p:=eE a o (by omega);have f:(n.aW.map Let.axV).getD (X a) []=nE o:=by rw[d,<- mI];exact gA
 have i:(0:Int)<=(X a:Int):=by omega
 have j:(X a:Int)<(X n.aW:Int):=by omega
 have k:n.aW[X a]?=S o:=by rw[d];simp
 have h:gi (n.aW.map Let.axV) (X a) 0=S (.I o.src):=by simp[gi,k,Let.axV]
 have e:gi (n.aW.map Let.axV) (X a) 1=S (.I o.dst):=by simp[gi,k,Let.axV]
 simp only[nE]at f;refine aD λR l=>?_;simp only[UZ,nN,Net.axV,al,f,h,e,i,j,cZ,aK,na,ab,bb,↓IT,VV,seval];refine⟨_,rfl,?_⟩;simp only[nN,Net.axV,al,f,i,j,cZ,aK,na,ab,bb,↓IT,VV,seval];refine⟨_,rfl,?_⟩;refine cm (c:=G) (by simp only[bb,VV,seval]<;>rfl) (λ_=>vg o.op o.op _) (by simp only[k6,zk,VV,seval]) ?_;have s:MG o.op o.op=G:=Gt.2 rfl;simp only[s,p,bb,↓IT,VV,seval];refine l _ (dn [nN n,nN n] [_] (Rm n q) (by repeat' constructor) ?_ (ih (a++[o]) (by rw[d];simp) g));simp only[LW,ah,aj,aP];omega
def aaO(k:n.axZ):∀(b a:fF),n.cy=a++b->(((fj 2 (fh (.ptr (X J) 0) (fh (.ptr (X J+1) 0) (fj 108 fo)))) λh=>K (.exit 4) ⟨h,J++[nN n,nN n]⟩)) ->gF (X J) A UY K (X b+1) ⟨(uu 2 (.ptr (X J) 0::.ptr (X J+1) 0::uu 92 (.I (X n.cy)::.I (X a)::uu 14 []))),J++[nN n,nN n]⟩:=by
 have m:=k.tT;intro b;induction b with
 |nil =>
  intro a c d;have c:n.cy=a:=by simpa using c
  refine aD λR e=>?_;simp only[UY,c,kJ,dZ,↓IT,VV,seval];exact d ..
 |cons o b ih =>
 intro a c d;have l:X n.cy=X a+(X b+1):=by rw[c];simp
 have f:=eE a o (by omega);have g:(n.cy.map ct).getD (X a) []=[.I o.1,.I o.2]:=by rw[c];exact gA
 have i:(0:Int)<=(X a:Int):=by omega
 have j:(X a:Int)<(X n.cy:Int):=by omega
 refine aD λR e=>?_;simp only[UY,nN,Net.axV,al,g,i,j,cZ,aK,ix,ez,f,ab,bb,↓IT,VV,seval];exact e _ (bL (by repeat' constructor) (ih (a++[o]) (by rw[c];simp) d))
end
set_option maxRecDepth 4000 in
def CZ(n:Net)(a:n.axZ)(J:ai):bh A 20 [.agg n.axV,.agg n.axV] J (.b true):=by refine aT func20 p20.2 λc g=>an ?_;have e:=λK=>aaQ (J:=J) (K:=K) n a n.aM [] rfl;have f:=λK=>aaP (J:=J) (K:=K) n c a n.aW [] rfl;have d:=λK=>aaO (J:=J) (K:=K) n a n.cy [] rfl;simp only[nN,Net.axV]at e f d;simp only[p20,SS,seval];simp only[Net.axV,na,ab,bb,↓IT,VV,seval];refine cD.wk (Wk.fG (by repeat' constructor)) (cD.mM (X n.aM+1) (e _ ?_));simp only[JE];intros;simp only[ab,↓IT,VV,seval];refine cD.wk (Wk.fG (by repeat' constructor)) (cD.mM (X n.aW+1) (f _ ?_));simp only[JE];intros;simp only[ab,↓IT,VV,seval];refine cD.wk (Wk.fG (by repeat' constructor)) (cD.mM (X n.cy+1) (d _ ?_));simp only[JE];intros;simp only[↓IT,VV,seval];exact gL c (by rfl) (by simp[LW])
end Go.Proofs.Tryz
namespace Go.Proofs.Tryz
open Go Go.Pm Go.Bt
variable(U:Net)
def zEn:En:=⟨[],[],[],[],[],[],0,0⟩
def Kz(j:U.axZ)(i:Nat)(o d:bX)(x:bf)(f:U.aM[i]?=some o)(e:En)(g:∀J,bh A 96 [.agg o.axV,.agg e.axV] J (.iS [.agg d.axV,.agg x.axV,.I 0]))(J:ai):
  bh A 18 [.agg U.axV,.agg (Ev.axV ⟨1,i,0,0,e⟩)] J (ij ⟨U.aM.set i d,U.aW,U.cy⟩ 0):=by have l:i<U.aM.length:=(ag.1 f).1;refine MQ U j ⟨1,i,0,0,e⟩ (by simp[jz,Nc];omega) rfl _ _ (λJ k a b c h=>?_) J;refine(Ba h U.aM (cL 0 U.aW) (fm 0 U.cy) trivial trivial ⟨1,i,0,0,e⟩ rfl i rfl o f d x 0 g (ga:=0) (gb:=0) (gc:=0)).mono ?_;rintro r m ⟨rfl,rfl⟩;exact⟨rfl,_,_,_,_,rfl,λ_=>⟨0,0,0,rfl,rfl,rfl,rfl⟩⟩
def apF(d:U.axZ)(a b:Nat)(l:a<U.aM.length)(i:b<U.aM.length)(n:a≠b)(f:U.cy=[])(e:En)(J:ai): bh A 18 [.agg U.axV,.agg (Ev.axV ⟨7,a,b,0,e⟩)] J (ij ⟨U.aM,U.aW,[fx a b]⟩ 0):=by refine W4 U d ⟨7,a,b,0,e⟩ (by simp[jz,Nc];omega) rfl _ _ (λJ k m g c h=>?_) J;rw[f];refine(MR h (bI 0 U.aM) (cL 0 U.aW) trivial trivial ⟨7,a,b,0,e⟩ rfl (by show(a:Int)≠b;omega) (ga:=0) (gb:=0) (gc:=0)).mono ?_;rintro r j ⟨rfl,rfl⟩;exact⟨rfl,_,_,_,_,rfl,λ_=>⟨0,0,1,rfl,rfl,rfl,rfl⟩⟩
def agt(l:U.axZ)(i j:Nat)(o:i≠j)(d f:bX)(g:U.aM[i]?=S d)(m:U.aM[j]?=S f)(q:d.down=Z)(p:f.down=Z)(n:mT U i j=G)(e:En)(J:ai):
  bh A 18 [.agg U.axV,.agg (Ev.axV ⟨3,i,j,0,e⟩)] J (ij Net.zero 8):=by have s:i<U.aM.length:=(ag.1 g).1;have t:j<U.aM.length:=(ag.1 m).1;refine Sl U l ⟨3,i,j,0,e⟩ (by simp[jz,Nc];omega) rfl _ _ (λJ k a b c h=>?_) J;refine(zp h U.aM U.aW U.cy l.tT i j o d f g m q p n (ga:=0) (gb:=0) (gc:=0)).mono ?_;rintro r u ⟨rfl,rfl⟩;exact⟨rfl,_,_,_,_,rfl,λh=>absurd h (by decide)⟩
