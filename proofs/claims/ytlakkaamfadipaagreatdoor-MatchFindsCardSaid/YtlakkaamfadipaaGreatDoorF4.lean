/- A part of a proof; the claim's last text says of what. -/
import Derived.Shelf.RegionOpenPlain
import Derived.Deep.LoopGhost
import Derived.Deep.RegionLaw
import Derived.Lib.SliceRun
import Derived.Test.YtlakkaamfadipaaGreatDoorB30
import Derived.Test.YtlakkaamfadipaaGreatDoorF3
set_option linter.all false
set_option maxHeartbeats 4000000

set_option maxHeartbeats 1000000
namespace Go.Proofs.Tryz
open Go Go.Pm Go.Bt
def oS(m:List En)(h:m.length<=1024)(k d:Nat)(i:k+d<=m.length)(e:En)(J:ak):
  bM prog 116 [.sl 8 (m.map En.awa),.I k,.agg e.awa,.I d] J (.sl 8 ((m.take k++e::m.drop (k+d)).map En.awa)):=by
 refine aZ func116 QS.2 λg j=>au ?_
 have a:IntKind.i64.wrap ((k:Int)+(d:Int))=((k+d:Nat):Int):=by
  rw[show(k:Int)+(d:Int)=((k+d:Nat):Int)by omega];exact IntWalk.i64_in _ (by omega)
 simp only[QS,SS,seval];have f:(List.take k (m.map En.awa)).length=k:=by rw[aP,ag];omega
 have b:List.take (m.length - (k+d)) (List.drop (k+d) (m.map En.awa))=List.drop (k+d) (m.map En.awa):=bW (by simp);have c:(List.drop (k+d) (m.map En.awa)).length=m.length - (k+d):=by simp
 simp only[En.awa,a,f,b,c,aj,ag,ao,V.pure,VV,seval];refine⟨⟨by omega,by omega⟩,⟨by omega,by unfold maxLen;omega⟩,⟨by omega,by unfold maxLen;omega⟩,⟨by omega,by omega,by omega⟩,⟨by omega,by unfold maxLen;omega⟩,?_⟩;refine mW 1 g (.inr rfl) rfl rfl ?_ ?_
 .simp[fz,oa,LW]
 .refine⟨?_,rfl⟩;simp[fz,oa,Pm.one,En.awa,eu,eO]
def tU(m:List En)(e:En):Prop:=∃x,m[below m (aN e)]?=some x/\cq x=aN e
instance (m:List En) (e:En):Decidable (tU m e) :=
 match h:m[below m (aN e)]? with
 |some x=>if b:cq x=aN e then .isTrue ⟨x,h,b⟩else .isFalse (λ⟨y,a,c⟩=>by rw[h]at a;cases a;exact b c)
 |none=>.isFalse (λ⟨y,a,_⟩=>by rw[h]at a;cases a)
def iA(m:List En)(e:En):Int:=if cj e≠0 then cj e else if tU m e\/m.length<1024 then 0 else 3
def lR(m:List En)(e:En):List En :=
 if iA m e=0 then m.take (below m (aN e))++e::m.drop (below m (aN e)+if tU m e then 1 else 0)else[]
def DJ(m:List En)(k:nj m)(o:∀e∈m,e.awk)(e:En)(p:e.awk)(J:ak):bM prog 56 [.sl 8 (m.map En.awa),.agg e.awa] J (.iQ [.sl 8 ((lR m e).map En.awa),.I (iA m e)]):=by
 refine aZ func56 p56.2 λi B=>au ?_;have n:=k.len;have A:=yL m (aN e);simp only[p56,SS,seval];simp only[En.awa,↓IT,VV,seval];refine aw (sQ m k o _) rfl ?_;simp only[↓IT,VV,seval];refine aw (kW e p _) (by simp only[En.awa,VV,seval]) ?_;simp only[↓IT,VV,seval];refine⟨λh=>?_,λh=>?_⟩
 .have h:cj e≠0:=by simpa using h
  have z:iA m e=cj e:=by rw[iA,az h]
  refine kb (ys:=[.sl 8 [],.I (cj e)]) i (.inr rfl) (by simp only[RS,seval]) (.cons (.nil _) (.cons (.refl _) .nil)) (by simp[LW]) ⟨?_,rfl⟩;rw[lR,z,an h];rfl
 have j:cj e=0:=by simpa using h
 refine aw (js e p _) (by simp only[En.awa,VV,seval]) ?_;simp only[↓IT,VV,seval];refine aw (sR m k o (aN e) _) rfl ?_
 by_cases h:below m (aN e)<m.length
 .have r:=dC h;have w:(m.map En.awa).getD (below m (aN e)) []=m[below m (aN e)].awa:=by simp[aq,h]
  have l:decide ((below m (aN e):Int)<(m.length:Int))=true:=by simp;omega
  have t:m[below m (aN e)].awa.take 8=m[below m (aN e)].awa:=by simp[En.awa]
  have x:aN m[below m (aN e)]=cq m[below m (aN e)]:=by rw[aN,an (by rw[k.ok _ r];decide)]
  have q:m[below m (aN e)]?=some m[below m (aN e)]:=ax h;simp only[ag,l,w,t,ao,VV,seval];refine⟨⟨by omega,by omega⟩,.agg m[below m (aN e)].awa,⟨rfl,by simp[En.awa]⟩,?_⟩;refine bB (c:=true) (by simp only[VV,seval]<;>rfl) (λ_=>js m[below m (aN e)] (o _ r) _) rfl ?_;simp only[x,↓IT,VV,seval];refine bB (c:=true) (by simp only[En.awa,VV,seval]<;>rfl) (λ_=>js e p _) rfl ?_;simp only[↓IT,VV,seval];refine⟨λg=>?_,λg=>?_⟩
  .have g:cq m[below m (aN e)]=aN e:=by simpa using g
   have d:tU m e:=⟨_,q,g⟩;have b:iA m e=0:=by rw[iA,an (by simp[j]),az (.inl d)]
   refine aw (oS m n (below m (aN e)) 1 (by omega) e _) (by simp only[En.awa,VV,seval]) ?_;simp only[↓IT,VV,seval];exact bg i (.inr rfl) (by simp only[RS,seval];rfl) (by simp[LW]) ⟨by rw[lR,az b,b,az d];rfl,rfl⟩
  .have g:cq m[below m (aN e)]≠aN e:=by simpa using g
   have d:¬tU m e:=λ⟨y,a,f⟩=>by rw[q]at a;cases a;exact g f
   refine⟨λa=>?_,λa=>?_⟩
   .have a:1024<=m.length:=by simp at a;omega
    have b:iA m e=3:=by rw[iA,an (by simp[j]),an (λf=>f.elim d λf=>by omega)]
    exact kb (ys:=[.sl 8 [],.I 3]) i (.inr rfl) (by simp only[RS,seval]) (.cons (.nil _) (.cons (.refl _) .nil)) (by simp[LW]) ⟨by rw[lR,b,an (by decide)];rfl,rfl⟩
   .have a:m.length<1024:=by simp at a;omega
    have b:iA m e=0:=by rw[iA,an (by simp[j]),az (.inr a)]
    refine aw (oS m n (below m (aN e)) 0 (by omega) e _) (by simp only[En.awa,VV,seval]) ?_;simp only[↓IT,VV,seval];exact bg i (.inr rfl) (by simp only[RS,seval];rfl) (by simp[LW]) ⟨by rw[lR,az b,b,an d];rfl,rfl⟩
 .have l:decide ((below m (aN e):Int)<(m.length:Int))=false:=by simp;omega
  have d:¬tU m e:=λ⟨y,a,f⟩=>h (ah.1 a).1;simp only[ag,l,VV,seval];refine⟨nofun,.u,nofun,?_⟩;refine bB (c:=false) (v:=.s []) (by simp only[VV,seval]<;>rfl) (nofun) rfl ?_;simp only[↓IT,VV,seval];refine bB (c:=false) (v:=.s []) (by simp only[VV,seval]<;>rfl) (nofun) rfl ?_;simp only[↓IT,VV,seval];refine⟨λa=>?_,λa=>?_⟩
  .have a:1024<=m.length:=by simp at a;omega
   have b:iA m e=3:=by rw[iA,an (by simp[j]),an (λf=>f.elim d λf=>by omega)]
   exact kb (ys:=[.sl 8 [],.I 3]) i (.inr rfl) (by simp only[RS,seval]) (.cons (.nil _) (.cons (.refl _) .nil)) (by simp[LW]) ⟨by rw[lR,b,an (by decide)];rfl,rfl⟩
  .have a:m.length<1024:=by simp at a;omega
   have b:iA m e=0:=by rw[iA,an (by simp[j]),az (.inr a)]
   refine aw (oS m n (below m (aN e)) 0 (by omega) e _) (by simp only[En.awa,VV,seval]) ?_;simp only[↓IT,VV,seval];exact bg i (.inr rfl) (by simp only[RS,seval];rfl) (by simp[LW]) ⟨by rw[lR,az b,b,an d];rfl,rfl⟩
end Go.Proofs.Tryz
namespace Go.Pm
open Go Go.RowKit Go.Shelf Go.Lib Go.Proofs
def rB{P:bo}{w:bD}{g o:Nat}{t:TypeId}{c:Array Value}{d:List Value}(e:w.heap[g]?=some (.cells c t (0,0)))(h:o+d.length<=c.size)(h1:∀v∈d,v.oneCell'=true):
  w.setCells g o d=w.setRow g (c.toList.take o++d++c.toList.drop (o+d.length)).toArray:=by
 have a:=run_storeCells_at P g o t d 0 c w e (by simpa using h) h1
 have b:=run_storeCells_cells (P:=P) g o d 0 w (λj f=>by
  simp only[World.cell?,de,e];rw[bO (by omega)];rfl) (λj f=>by simp[World.frozen?,e]) h1
 rw[a]at b;simpa using b.symm
def u6{P:bo}(w:bD)(t e ty:TypeId)(z:Value)(h:P.underlying t=some (.slice e))(j:∀w,(zeroValue e).run P w=.ok z w)(g o n c:Nat)(k:0<n)(a:Array Value)(T:TypeId)(i:w.heap[g]?=some (.cells a T (0,0)))(f:o+n*z.cells.size<=a.size)(h1:∀v∈(Builtin.zeroCells z.cells n).toList,v.oneCell'=true):
  (Builtin.clear_ #[t] ty #[.slice (some ⟨g,o,none⟩) n c]).run P w=.ok (.tuple #[]) (w.setRow g (a.toList.take o++(Builtin.zeroCells z.cells n).toList++a.toList.drop (o+n*z.cells.size)).toArray):=by
 have b:(Builtin.zeroCells z.cells n).toList.length=n*z.cells.size:=by simp[Builtin.zeroCells]
 have d:=run_storeCells_at P g o T (Builtin.zeroCells z.cells n).toList 0 a w i (by rw[b];simpa using f) h1;simp only[de,b]at d;obtain⟨m,rfl⟩:∃m,n=m+1:=⟨n - 1,by omega⟩;simp[Builtin.clear_,run_underlying h,j,d]
set_option maxRecDepth 1000000 in
def vQ{P:bo}{l:Ren}(L:SlLaysE0.n45 P l)(k:Nat)(F:TypeInfo)(z:Value)(TW:P.info? (l.t 23)=some F)(Pk:F.size=k)(E:z.cells.size=k)(H:∀w,(zeroValue (l.t 23)).run P w=.ok z w)(Z:∀w,(Go.sizeOf (l.t 23)).run P w=.ok k w)(JL:∀q,q<k->(z.cells.getD q undef).oneCell'=true)
  (g n c i:Nat) (b:Array Value) (T:TypeId) (w:bD) (hi:i<n) (Ez:n<=c) (Y:c<=9223372036854775807) (r:w.heap[g]?=some (.cells b T (0,0))) (p:b.size=c*k) (B:∀v∈b.toList.take (n*k),v.oneCell'=true) :
  Calls P (l.f 45) #[.slice (some ⟨g,0,none⟩) n c,.int .i64 i,.int .i64 ((i:Int)+1)] w λe w'=>e=.returned (.slice (some ⟨g,0,none⟩) (n - 1) c)/\∃row,w'=w.drew.setRow g row/\row.size=c*k /\
   row.toList.take ((n - 1)*k)=b.toList.take (i*k)++(b.toList.take (n*k)).drop ((i+1)*k):=by
 have mixed:=L.mixed;have t0:=L.t0;have a0:=L.a0;have z0:=L.z0;have v0:=L.v0;have t3:=L.t3;have a3:=L.a3;have z3:=L.z3;have v3:=L.v3;have t4:=L.t4;have a4:=L.a4;have z4:=L.z4;have v4:=L.v4;have o:=L.t22;have ab:=L.a22;have R:=L.z22;have af:=L.v22;have aa:n*k<=c*k:=bI _ Ez;have ad:(i+1)*k<=n*k:=bI _ hi;generalize s:(b.toList.take (n*k)).drop ((i+1)*k)=news;have d:news.length=(n - (i+1))*k:=by rw[<- s];simp only[bA,aP,bh,p,s9];omega
 have O:∀u∈news,u.oneCell'=true:=λu j=>B u (cH (s.symm▸j))
 have M:∀t u,news[t]?=some u->w.cell? ⟨g,(i+1)*k+t,none⟩=some u:=by
  intro t u j;rw[<- s,db,ee]at j;split at j
  .simp only[World.cell?,r];simpa using j
  .cases j
 obtain⟨A,hA,vG⟩:∃A:Addr,(if c=i+1 then some (⟨g,0,none⟩:Addr)else some ⟨g,(i+1)*k,none⟩)=some A/\(∀t u,news[t]?=some u->w.drew.cell? (A.add t)=some u):=by
  by_cases h:c=i+1
  .refine⟨⟨g,0,none⟩,by simp[h],λt u j=>?_⟩
   have h0:news.length=0:=by
    rw[d];have:n - (i+1)=0:=by omega
    rw[this];simp
   rw[fG.1 h0]at j;simp at j
  .exact⟨⟨g,(i+1)*k,none⟩,by simp[h],λt u j=>by rw[Addr.add_lit];exact M t u j⟩
 have qi:(i+(n - (i+1)))=n - 1:=by omega
 have fk:¬(c=i):=by omega
 have HU:IntKind.i64.wrap ((i:Int)+1)=(i:Int)+1:=by rw[IntKind.wrap_i64];omega
 have JH:((i:Int)+1).toNat=i+1:=by omega
 have Rp:¬((i:Int)=(i:Int)+1):=by omega
 have yQ:(0:Int)<=(i:Int)+1:=by omega
 have mj:(i:Int)+1<=(n:Int):=by omega
 have av:(i:Int)<=(i:Int)+1:=by omega
 have V:¬(c=i+(n - (i+1))):=by omega
 have ac:i<=c:=by omega
 have ap:i+1<=c:=by omega
 have s3:∀t,t<news.length->(w.drew.cell? ⟨g,0+i*k+t,none⟩).isSome=true/\w.drew.frozen? ⟨g,0+i*k+t,none⟩=false:=by
  intro t S
  have U:i*k+t<b.size:=by
   rw[p];rw[d]at S;have:i*k+(n - (i+1))*k<=n*k:=by rw[<- Nat.add_mul];exact bI _ (by omega)
   omega
  refine⟨?_,?_⟩
  .show(w.cell? _).isSome=true;simp only[World.cell?,r,aY];rw[bO U];rfl
  .show w.frozen? _=false;simp[World.frozen?,r]
 have I:i*k+news.length<=b.size:=by
  rw[d,<- Nat.add_mul,p];exact bI _ (by omega)
 obtain⟨a,x⟩:∃a,a=(b.toList.take (i*k)++news++b.toList.drop (i*k+news.length)).toArray:=⟨_,rfl⟩
 have m:w.drew.setCells g (0+i*k) news=w.drew.setRow g a:=by
  rw[aY,rB (P:=P) (w:=w.drew) r I O,x]
 have y:a.size=c*k:=by
  rw[x];simp only[eU,aj,aP,bA,bh,p]at I |-;omega
 have JP:(w.drew.setRow g a).heap[g]?=some (.cells a T (0,0)):=setRow_heap w.drew g b a T (0,0) r;have am:(n - 1)*k+1*k=n*k:=by rw[<- Nat.add_mul];congr 1;omega
 have Q:(Builtin.zeroCells z.cells 1).toList.length=k:=by simp[Builtin.zeroCells,E]
 have N:∀v∈(Builtin.zeroCells z.cells 1).toList,v.oneCell'=true:=by
  intro v K;simp only[Builtin.zeroCells,ir,mh,we,bF,eC]at K;obtain⟨q,hq,rfl⟩:=K;have D:q % z.cells.size<z.cells.size:=tc _ (by omega);rw[rY _ _ D];exact JL _ (by omega)
 have W:∀G C,(Builtin.clear_ #[l.t 22] G #[.slice (some ⟨g,(n - 1)*k,none⟩) (n - (n - 1)) C]).run P (w.drew.setRow g a)=.ok (.tuple #[]) ((w.drew.setRow g a).setRow g (a.toList.take ((n - 1)*k)++(Builtin.zeroCells z.cells 1).toList++a.toList.drop ((n - 1)*k+1*k)).toArray):=λG C=>by
  have h1:n - (n - 1)=1:=by omega
  rw[h1];have:=u6 (P:=P) (w.drew.setRow g a) (l.t 22) (l.t 23) G z o H g ((n - 1)*k) 1 C (by omega) a T JP (by rw[E,y];omega) N
  rwa [E]at this
 generalize (Builtin.zeroCells z.cells 1).toList=zc at W Q;have hW:Hid (w.drew.setCells g (0+i*k) news=w.drew.setRow g a):=m
 have hC:Hid (a.toList=b.toList.take (i*k)++news++b.toList.drop (i*k+news.length)):=by
  show a.toList=_;rw[x]
 clear m x s M N;obtain⟨_,_,X⟩:=L.f45
 go_enter X,SlBodyN.n45_ntmps l
 go_wp2_with fail
 go_region_law_o (refine step_append_room rfl (.tmp 22) (.tmp 25) (l.t 22) rfl (l.t 23) F k o TW Pk g 0 i c (by simp[Act.eval,Act.put]) A (n - (i+1)) (c - (i+1)) news (by simp[Act.eval,Act.put]) d vG O (by omega) s3 ?_;rw[hW.out])
 go_wp2
 go_ret
 have BG:(b.toList.take (i*k)++news).length=(n - 1)*k:=by
  rw[aj,aP,bh,d,p,fb (by omega),<- Nat.add_mul];congr 1
 have J:(a.toList.take ((n - 1)*k)).length=(n - 1)*k:=by
  rw[aP,bh,y];omega
 refine⟨rfl,_,by rw[setRow_setRow],?_,?_⟩
 .simp only[eU,aj,bA,J,Q,bh,y];omega
 .show List.take ((n - 1)*k) (a.toList.take ((n - 1)*k)++_)=_;rw[dL (xH J.symm),lB,YD,hC.out,Bh BG]
def kN.take{w:bD}{J:ak}{μ:Mem}{xs:dF}{sz:Nat}{vals:List Value}(h:kN w J μ xs sz vals)(m:Nat)(l:m<=xs.length):kN w J μ (xs.take m) sz (vals.take (m*sz)):=by
 refine⟨λq a=>h.1 q (cF a),λi j x b=>?_⟩
 have d:i<m:=by
  obtain⟨q,a,_⟩:=jz b;have:=(ah.1 a).1;rw[aP]at this;omega
 have c:gj xs i j=some x:=by
  simp only[gj,ee,az d]at b |-;exact b
 obtain⟨e,u,k,g⟩:=h.2 i j x c
 have n:j<sz:=by
  obtain⟨q,a,f⟩:=jz c;have:=h.1 q (bE a);have:=(ah.1 f).1;omega
 refine⟨e,u,?_,g⟩;have:(i+1)*sz<=m*sz:=bI _ d;rw[cJ,ir]at this;rw[ee,az (by omega)];exact k
def kN.drop{w:bD}{J:ak}{μ:Mem}{xs:dF}{sz:Nat}{vals:List Value}(h:kN w J μ xs sz vals)(m:Nat):kN w J μ (xs.drop m) sz (vals.drop (m*sz)):=by
 refine⟨λq c=>h.1 q (cH c),λi j x a=>?_⟩
 have b:gj xs (m+i) j=some x:=by
  simp only[gj,db]at a |-;exact a
 obtain⟨d,u,f,e⟩:=h.2 _ j x b;refine⟨d,u,?_,e⟩;rw[db,<- f,cJ,iW]
def PC.yF{P:bo}{c:Ren}(L:SlLaysE0.n45 P c){k by' g id i:Nat}{rows:dF}{J:ak}(A:(P.info? (c.t 23)).map (λi=>(i.zero.map (λz=>(z.cells.size,z.cells.all (·.oneCell'))),i.size))=some (some (k,true),k))(hi:i<rows.length)(hl:rows.length<2^30)(h1:J[id]?=some (.row (c.t 23) k by' g false rows)):
  PC P (c.f 45) [.own id g,.i .i64 i,.i .i64 ((i:Int)+1)] J (λr J'=>r=.own id (g+1)/\J'=J.set id (.row (c.t 23) k by' (g+1) false (rows.take i++rows.drop (i+1)))):=by
 cases o:P.info? (c.t 23)with
 |none=>simp[o]at A
 |some Q =>
 simp only[o,cL,ae,aQ]at A;obtain⟨s,R⟩:=A;cases h:Q.zero with
 |none=>simp[h]at s
 |some z =>
 simp only[h,cL,ae,aQ]at s;refine PC.Vr h1 λB w0 w μ F T m=>?_;have I:=(m.2 0 _ rfl).mK h1;have S:=(m.2 1 _ rfl).iF;have M:=(m.2 2 _ rfl).iF;obtain⟨_,a,D,E⟩:=T.obj id _ h1
 have e:F=#[μ id,.int .i64 i,.int .i64 ((i:Int)+1)]:=by
  obtain⟨q⟩:=F
  match q,m.1 with
  |[u,v,y],_=>simp at I S M;rw[I,S,M]
 rw[e];have o1:=kN.one T E D.1;rcases D.2 with⟨_,hn⟩|⟨x,p,d,V,hB,O,Y,G,pN,C⟩
 .omega
 rw[V];refine(vQ L k Q z o R s.1 (λw=>by simp[zeroValue,run_typeInfo w o,h]) (λw=>by simp[sizeOf,run_typeInfo w o,R]) (λq aa=>?_) x rows.length p i d (c.t 23) w hi Y (by unfold maxLen at G;omega) O pN (λv m=>o1 v (C▸m))).mono ?_
 .have:=YL.1 s.2 q (by omega);rw[cx,bO (by omega)];exact this
 rintro e w' ⟨rfl,row,rfl,X,H⟩;have N:a.length=rows.length*k:=D.1;have ab:(i+1)*k<=rows.length*k:=bI _ hi;have K:i*k<=rows.length*k:=bI _ (by omega);have l:(rows.take i++rows.drop (i+1)).length=rows.length - 1:=by simp only[aj,aP,bA];omega
 have n:i*k+(rows.length - (i+1))*k=(rows.length - 1)*k:=by rw[<- Nat.add_mul];congr 1;omega
 have Z:(a.take (i*k)++a.drop ((i+1)*k)).length=(rows.length - 1)*k:=by
  rw[s9]at n;simp only[aj,aP,bA,N];omega
 rw[C,show d.toList.take (i*k)=a.take (i*k)by rw[<- C,lB,fb K]]at H;refine⟨_,a.take (i*k)++a.drop ((i+1)*k),rfl,?_,λb W=>.inl W,?_,?_⟩
 .refine⟨rfl,rfl,rfl,?_,λj hj iR=>?_⟩
  .simp only[World.setRow,World.drew,xL];exact aD _
  .have U:¬x=j:=λe=>iR (by rw[e];rfl);simp only[World.setRow,World.drew,dp,an U]
 .rw[l];exact⟨Z,.inr ⟨x,p,row,rfl,hB,setRow_heap w.drew x d _ (c.t 23) (0,0) O,by omega,G,X,H⟩⟩
 .exact(E.take i (by omega)).append (E.drop (i+1)) (by simp only[aP,N,fb K,fb (YE hi)])
end Go.Pm
namespace Go.Proofs.Tryz
open Go Go.Pm Go.Bt
def Ut(a b c d e:Int):gC [0,0,0,0,0] [.I a,.I b,.I c,.I d,.I e] [.I a,.I b,.I c,.I d,.I e]=some true:=by
 simp[gC,dD]
def Qb{e:En}{l:List Pn}{q:Qr}(h:KQ e l q)(J:ak):bM prog 21 [.agg e.awa,.sl 5 (l.map Pn.awa),.agg q.awa] J (.agg (qL e l q).awa) :=
 Qd e l q h.sc (by have:=h.e1;omega) (by have:=h.e2;omega) (by have:=h.q1;omega) (by have:=h.q2;omega) h.te h.tq J
def OR{e:En}{k:Nat}(g:k<=20)(h:pL k e){a:List Pn}(d:∀p∈a,xn p)(j:a.length<=20){q:Qr}(c:UC q):KQ e a q:=by
 have i:=h.jr;have m:=h.ie;have n:=c.jr;have f:=c.ie;have E:=(ou h.ok).awh;have Q:=c.ok;unfold fi at Q;have l:0<=q.now/\q.now<=1073741824:=by(repeat' split at Q)<;>omega
 exact⟨⟨by omega,by omega,by omega,λp b=>by have:=(d p b).iN;omega⟩,by omega,by omega,by omega,by omega⟩
set_option maxRecDepth 20000 in
def uo(a b:En)(J:ak):bM prog 42 [.agg a.awa,.agg b.awa] J (.b (B4 a b)):=by
 refine aZ func42 p42.2 λc e=>au ?_;simp only[p42,SS,seval];simp only[En.awa,VV,seval];refine aw (nz a.awc b.awc _) rfl ?_;simp only[VV,seval];have d:B4 a b=(gL a.awc b.awc&&(gL a.awf b.awf&&(a.bU==b.bU&&(a.next==b.next&&(a.c8==b.c8&&(a.cA==b.cA&&(a.awh==b.awh&&a.awq==b.awq))))))):=rfl;rw[d];refine bB (by simp only[VV,seval]<;>rfl) (λ_=>nz a.awf b.awf _) rfl ?_;simp only[VV,seval];cases gL a.awc b.awc<;>simp only[VV,seval]
 .exact gq c (by rfl) (by simp[LW])
 cases gL a.awf b.awf<;>simp only[VV,seval]
 .exact gq c (by rfl) (by simp[LW])
 cases a.bU==b.bU<;>simp only[VV,seval]
 .exact gq c (by rfl) (by simp[LW])
 cases a.next==b.next<;>simp only[VV,seval]
 .exact gq c (by rfl) (by simp[LW])
 cases a.c8==b.c8<;>simp only[VV,seval]
 .exact gq c (by rfl) (by simp[LW])
 cases a.cA==b.cA<;>simp only[VV,seval]
 .exact gq c (by rfl) (by simp[LW])
 cases a.awh==b.awh<;>simp only[VV,seval]
 .exact gq c (by rfl) (by simp[LW])
 exact gq c (by rfl) (by simp[LW])
def ahI{n:Nat}{J:ak}{K:bl}(a b:List En)(j:a.length<2^63)(p:a.length=b.length):∀(f c d i:List En),a=d++f->b=i++c->d.length=i.length ->
  (sE f c=true->((fj 27 fo) λq=>K (.exit 0) ⟨q,J⟩))->(sE f c=false->((fj 4 (fh (.b false) (fj 22 fo))) λq=>K .ret ⟨q,J⟩)) ->
  fm n prog Vm K (f.length+1) ⟨(.sl 8 (a.map En.awa)::.sl 8 (b.map En.awa)::uu 10 (.I a.length::.I d.length::uu 13 [])),J⟩:=by
 intro f
 induction f with
 |nil =>
  intro c d i g l o m k
  have:c=[]:=by
   subst g;subst l;simp at p;exact aW (by omega)
  subst this;have g:=cN g
  subst g;refine ar λR s=>?_;simp only[Vm,VV,seval];exact⟨λh=>by simp at h,λ_=>m rfl ..⟩
 |cons x f ih =>
  intro c d i g l o m k;cases c with
  |nil=>subst g;subst l;simp at p;omega
  |cons y c =>
   subst g;subst l;have v:(List.map En.awa (i++y::c)).getD d.length []=y.awa:=by rw[o];exact um
   have t:=dh d x (by simp at j;omega)
   refine ar λR s=>?_;simp only[Vm,ao,v,En.awa,VV,seval];have u:(0:Int)<=d.length/\(d.length:Int)<(List.map En.awa (d++x::f)).length:=by simp;omega
   have r:(0:Int)<=d.length/\(d.length:Int)<(List.map En.awa (i++y::c)).length:=by simp at p |-;omega
   refine⟨λ_=>⟨u,r,?_⟩,λh=>by simp at h<;>omega⟩;refine aw (uo x y _) rfl ?_;simp only[VV,seval];refine⟨λh=>?_,λh=>?_⟩
   .have h:B4 x y=false:=by rw[dm]at h;exact h
    exact k (by simp[sE,h]) ..
   .have h:B4 x y=true:=by rw[dQ]at h;exact h
    have e:sE (x::f) (y::c)=sE f c:=by simp[sE,h]
    rw[e]at m k;refine s _ (aK ?_ (ih c (d++[x]) (i++[y]) (by simp) (by simp) (by simp[o]) m k));rw[t];repeat' constructor
def wG(a b:List En)(J:ak):bM prog 29 [.sl 8 (a.map En.awa),.sl 8 (b.map En.awa)] J (.b (sE a b)):=by
 refine aZ func29 p29.2 λi f=>au ?_;have c:=mG (f 0 _ rfl).1;rw[ag]at c;simp only[p29,SS,seval];simp only[ag,VV,seval];refine⟨λh=>?_,λh=>?_⟩
 .have h:a.length≠b.length:=by simp at h;omega
  have e:sE a b=false:=by
   cases g:sE a b with
   |false=>rfl
   |true=>exact absurd (Yj g) h
  exact aO (.inr rfl) rfl ⟨by rw[e];rfl,rfl⟩
 .have h:a.length=b.length:=by simp at h;omega
  refine bZ.aK ?_ (a.length+1) (ahI a b c h a b [] [] rfl rfl rfl (λd=>?_) (λd=>?_))
  .repeat' constructor
  .simp only[JE];intros;simp only[VV,seval];exact aO (.inr rfl) rfl ⟨by rw[d];rfl,rfl⟩
  .simp only[JE];intros;exact aO (.inr rfl) rfl ⟨by rw[d];rfl,rfl⟩
def Cv.Uy{xs ys:aB}(h:oJ xs ys):Cv (.agg xs) (.agg ys):=.agg _ _ h.at.1 (λi x y b a=>h.at.2 i x y b a)

set_option maxHeartbeats 1000000
structure oM (M:List dM):Prop where
 len:M.length<=1024
 s6:kK M
 ok:∀s∈M,s.key=aN s.en/\s.dz=dz s.en.awc/\cj s.en=0/\s.en.awk
def oM.nil:oM []:=⟨by decide,by simp[kK],λs a=>by cases a⟩
def oM.join{M:List dM}(h:oM M){s:dM}(b:s∈M):cq s.en=s.key:=by
 obtain⟨a,_,c,_⟩:=h.ok s b;rw[a,aN,an (by rw[c];decide)]
def oM.keys{M:List dM}(h:oM M):(M.map dM.en).map cq=M.map dM.key:=by
 rw[jn];exact eA λs a=>h.join a
def oM.mem{M:List dM}(h:oM M):nj (M.map dM.en) :=
 ⟨by rw[ag];exact h.len,λe a=>by
  obtain⟨s,b,rfl⟩:=bF.1 a;exact(h.ok s b).2.2.1,by rw[h.keys];exact h.s6⟩
def oM.awk{M:List dM}(h:oM M):∀e∈M.map dM.en,e.awk:=λe a=>by
 obtain⟨s,b,rfl⟩:=bF.1 a;exact(h.ok s b).2.2.2
def ly{M:List dM}(h:oM M)(k:aG):below (M.map dM.en) k=fN M k:=by
 have a:∀(l:List dM),(∀s∈l,cq s.en=s.key)->below (l.map dM.en) k=fN l k:=by
  intro l
  induction l with
  |nil=>intro _;rfl
  |cons x l ih =>
   intro c;have e:Op.bytesLess (cq x.en) k=decide (fS x.key k<0):=by rw[fU,c x (by simp)]
   have ih:=ih λs b=>c s (by simp[b]);simp only[below,fN,xt,aH,cy,e]at ih |-;split<;>simp[ih]
 exact a M λs b=>h.join b
def mM{M:List dM}(h:oM M)(e:En):tU (M.map dM.en) e<->aN e∈M.map dM.key:=by
 rw[mJ h.s6];unfold tU;rw[ly h];simp only[ck,aF];constructor
 .rintro⟨x,⟨s,a,rfl⟩,b⟩;exact⟨s,a,by rw[<- b,h.join (bE a)]⟩
 .rintro⟨s,a,b⟩;exact⟨s.en,⟨s,a,rfl⟩,by rw[h.join (bE a),b]⟩
def wH{M:List dM}(h:oM M)(e:En):fP M e=iA (M.map dM.en) e:=by
 unfold fP iA;rw[ag];split
 .rfl
 .by_cases a:aN e∈M.map dM.key\/M.length<1024
  .rw[az a,az (by rwa [mM h])]
  .rw[an a,an (by rwa [mM h])]
def DO{M:List dM}(h:oM M)(next:Int)(e:En)(h0:fP M e=0):(kp M next e).map dM.en=lR (M.map dM.en) e:=by
 have c:iA (M.map dM.en) e=0:=by rw[<- wH h];exact h0
 by_cases a:aN e∈M.map dM.key
 .have b:kp M next e=M.set (fN M (aN e)) (kj next e):=by rw[kp,az h0,az a]
  rw[b,lR,az c,ly h,az ((mM h e).2 a)];obtain⟨g,d,_⟩:=(mJ h.s6 _).1 a;rw[gQ,az (ah.1 d).1];simp[kj,eu,eO]
 .have b:kp M next e=M.take (fN M (aN e))++kj next e::M.drop (fN M (aN e)):=by rw[kp,az h0,an a]
  rw[b,lR,az c,ly h,an (λf=>a ((mM h e).1 f))];simp[kj,eu,eO]
def sL{M:List dM}(c:kK M)(k:aG):∀s∈M.take (fN M k),fS s.key k<0:=λs b=>by
 obtain⟨i,a⟩:=ed.1 b;rw[ee]at a;split at a
 .rename_i h;exact(sV c k i s a).2 h
 .cases a
def vP{M:List dM}(c:kK M)(k:aG):∀s∈M.drop (fN M k),¬fS s.key k<0:=λs b h=>by
 obtain⟨i,a⟩:=ed.1 b;rw[db]at a;have:=(sV c k _ s a).1 h;omega
def DP{M:List dM}(h:oM M)(next:Int)(e:En)(w:e.awk):oM (kp M next e):=by
 unfold kp;split
 .rename_i f
  have o:cj e=0:=by
   unfold fP at f;split at f
   .exact f
   .rename_i h;simpa using h
  have F:(kj next e).key=aN (kj next e).en/\(kj next e).dz=dz (kj next e).en.awc/\cj (kj next e).en=0/\(kj next e).en.awk:=⟨rfl,rfl,o,w⟩;have E:=Em M (aN e)
  have g:∀B:List dM,(∀s∈B,s∈M)->kK B->(∀s∈B,fS (aN e) s.key<0)->fN M (aN e)+1+B.length<=1024->oM (M.take (fN M (aN e))++kj next e::B):=λB z D n L =>
   ⟨by rw[aj,aP,ai];omega,by
    unfold kK;rw[cM,aH,jf,dx];have A:((M.take (fN M (aN e))).map dM.key).Pairwise λa b=>fS a b<0:=by rw[eu];exact h.s6.sublist (Fi _ _)
    refine⟨A,⟨λy C=>?_,D⟩,λa x b l=>?_⟩
    .obtain⟨s,c,rfl⟩:=bF.1 C;exact n s c
    .obtain⟨s,c,rfl⟩:=bF.1 x;have j:=sL h.s6 _ s c;rcases bC.1 l with rfl|l
     .exact j
     .obtain⟨t,q,rfl⟩:=bF.1 l;exact lY j (n t q),λs c=>by
    rcases bP.1 c with d|d
    .exact h.ok s (cF d)
    .rcases bC.1 d with rfl|d
     .exact F
     .exact h.ok s (z s d)⟩
  split
  .rename_i k;obtain⟨J,p,r⟩:=(mJ h.s6 _).1 k;have u:=(ah.1 p).1;rw[gQ,az u];refine g _ (λs c=>cH c) ?_ (λs c=>?_) (by rw[bA];have:=h.len;omega)
   .unfold kK;rw[eO];exact h.s6.sublist (so _ _)
   .obtain⟨i,m⟩:=ed.1 c;rw[db]at m;have G:=(ah.1 m).1;have:=l4.1 h.s6 (fN M (aN e)) (fN M (aN e)+1+i) (by rw[ag];omega) (by rw[ag];omega) (by omega);rw[nO,nO,(ah.1 p).2,(ah.1 m).2,r]at this;exact this
  .rename_i k
   have I:M.length<1024:=by
    unfold fP at f;rw[an (by simp[o])]at f;split at f
    .rename_i d;exact d.elim (λh=>absurd h k) id
    .cases f
   refine g _ (λs c=>cH c) ?_ (λs c=>?_) (by rw[bA];omega)
   .unfold kK;rw[eO];exact h.s6.sublist (so _ _)
   .have d:=vP h.s6 _ s c;have j:s.key≠aN e:=λv=>k (bF.2 ⟨s,cH c,v⟩);have H:=gi.my s.key (aN e);have K:fS s.key (aN e)≠0:=λh=>j (kh.1 h);omega
 .exact h
def DN{M:List dM}(next:Int)(e:En):∀s∈kp M next e,s∈M\/s.en=e:=λs a=>by
 unfold kp at a;split at a
 .split at a
  .rcases uj a with h|h
   .exact .inl h
   .exact .inr (by rw[h];rfl)
  .rcases bP.1 a with h|h
   .exact .inl (cF h)
   .rcases bC.1 h with h|h
    .exact .inr (by rw[h];rfl)
    .exact .inl (cH h)
 .exact .inl a
def DQ{M:List dM}(next:Int)(e:En):(kp M next e).length<=M.length+1:=by
 unfold kp;split
 .split
  .rw[fq];omega
  .rw[aj,aP,ai,bA];omega
 .omega

set_option maxRecDepth 8000
set_option maxHeartbeats 2000000
def Jx{J:ak}{n0:Nat}{K:bl}(l:List En)(U:l.length<=2048)(v:∀e∈l,e.awk/\(dz e.awc).length<=2^20):∀(rest pre:List En) (M:List dM) (next:Int) (S:ak),l=pre++rest->CC J M next S->oM M->(∀s∈M,s.en∈l)->M.length<=pre.length->0<=next->next<=pre.length->(∀e,pre.getLast?=some e->cj e=0->pre.length<=1024->e∈M.map dM.en) ->
  (∀(f:List dM) (next':Int) (j:ak),CC J f next' j->oM f->(∀s∈f,s.en∈l)->f.length<=l.length->(∀e,l.getLast?=some e->cj e=0->l.length<=1024->e∈f.map dM.en)->((fj 5 (fh (.ptr (J.length+4) 0) (fh (.sl 8 ((f.map dM.en).map En.awa)) (fj 29 fo)))) λN=>K (.exit 0) ⟨N,j⟩)) ->
  fm n0 prog wQ K (rest.length+1) ⟨(uu 5 (.ptr (J.length+4) 0::.sl 8 ((M.map dM.en).map En.awa)::uu 5 (.sl 8 (l.map En.awa)::.I l.length::.I pre.length::uu 21 []))),S⟩:=by
 intro rest
 induction rest with
 |nil =>
  intro pre M next S c r a w b g E C q
  have c:=cN c
  subst c;refine ar λR z=>?_;simp only[wQ,VV,seval];exact⟨λh=>by simp at h,λ_=>q M next S r a w b C ..⟩
 |cons e rest ih =>
  intro pre M next S c r a w b g E C q
  have W:=mT c
  have B:=dh pre e (by omega)
  have H:decide ((pre.length:Int)<(l.length:Int))=true:=by simp;omega
  have Q:(l.map En.awa).getD pre.length []=e.awa:=by rw[c];simp[aq]
  have D:e∈l:=by rw[c];simp
  have m:=v e D;have F:e.awa.take 8=e.awa:=by simp[En.awa]
  refine ar λR z=>?_;simp only[wQ,H,Q,F,ao,ag,V.pure,↓IT,VV,seval];refine⟨⟨by omega,by omega⟩,by simp[En.awa],?_⟩;simp only[En.awa,V.pure,↓IT,VV,seval];refine aw (DJ (M.map dM.en) a.mem a.awk e m.1 _) (by simp only[En.awa,VV,seval]) ?_;simp only[V.pure,↓IT,VV,seval];rw[<- wH a];refine cD (Ny (r.app _) (by omega) a.s6 a.len e m.1 (by have:=m.2;omega)) (by simp only[En.awa,VV,seval]) ?_;rintro _ j ⟨rfl,p⟩;have A:(fP M e != fP M e)=false:=by simp
  have n:=DP a next e m.1
  have d:∀s∈kp M next e,s.en∈l:=λs v=>(DN next e s v).elim (w s) λh=>by rw[h];exact D
  have u:=DQ (M:=M) next e
  have t:0<=sB M next e/\sB M next e<=next+1:=by unfold sB;split<;>omega
  have G:∀x,(pre++[e]).getLast?=some x->cj x=0->(pre++[e]).length<=1024->x∈(kp M next e).map dM.en:=λx i T O=>by
   rw[Ag]at i;cases i
   have P:fP M e=0:=by
    rw[fP,an (by simp[T])];refine az (.inr ?_);rw[aj,eI]at O;omega
   refine bF.2 ⟨kj next e,?_,rfl⟩;rw[kp,az P];split
   .rename_i L;obtain⟨x,i,_⟩:=(mJ a.s6 _).1 L;exact List.mem_set (ah.1 i).1 _
   .simp
  have k:=ih (pre++[e]) (kp M next e) (sB M next e) j (by simp[c]) p n d (by rw[aj,eI];omega) t.1 (by rw[aj,eI];omega) G q
  by_cases g:fP M e=0
  .have y:=DO a next e g
   have o:(fP M e==0)=true:=by simp[g]
   rw[<- y];simp only[A,o,B,V.pure,↓IT,VV,seval];exact z _ (aK (by repeat' constructor) k)
  .have y:kp M next e=M:=by rw[kp,an g]
   have o:(fP M e==0)=false:=by simp[g]
   rw[y]at k;simp only[A,o,B,V.pure,↓IT,VV,seval];exact z _ (aK (by repeat' constructor) k)
def vL(l:List En)(f:l.length<=2048)(c:∀e∈l,e.awk/\(dz e.awc).length<=2^20)(J:ak):PC prog 22 [.sl 8 (l.map En.awa)] J (λr d=>∃M next,r=.iQ [.ptr (J.length+4) 0,.sl 8 ((M.map dM.en).map En.awa),.b true]/\CC J M next d/\oM M/\(∀s∈M,s.en∈l)/\M.length<=l.length/\∀e,l.getLast?=some e->cj e=0->l.length<=1024->e∈M.map dM.en):=by
 refine aZ func22 p22.2 λn m=>au ?_;simp only[p22,SS,seval];simp only[V.pure,↓IT,VV,seval];refine aw (BJ _) rfl ?_;simp only[ag,V.pure,↓IT,VV,seval];refine bZ.aK (fr':=(uu 5 (.ptr (J.length+4) 0::.sl 8 ((([]:List dM).map dM.en).map En.awa)::uu 5 (.sl 8 (l.map En.awa)::.I l.length::.I (([]:List En).length:Nat)::uu 21 [])))) (by repeat' constructor) (l.length+1) (Jx l f c l [] [] 0 _ rfl (CC.new J) oM.nil (λs c=>by cases c) (fA _) (dJ _) (dJ _) (λe j=>by simp at j) ?_);intro M next d k g i a h
 simp only[JE];intros;simp only[V.pure,↓IT,VV,seval];exact fH (.inr rfl) rfl (Wk.refl _ _) rfl ⟨M,next,rfl,k,g,i,a,h⟩
def F7(l:List En)(c:l.length<=2048)(j:∀e∈l,e.awk/\(dz e.awc).length<=2^20)(J:ak):PC prog 22 [.sl 8 (l.map En.awa)] J (λr a=>∃M next,r=.iQ [.ptr (J.length+4) 0,.sl 8 ((M.map dM.en).map En.awa),.b true]/\CC J M next a/\oM M/\(∀s∈M,s.en∈l)/\M.length<=l.length) :=
 (vL l c j J).mono λ_ _ ⟨M,next,g,d,i,f,h,_⟩=>⟨M,next,g,d,i,f,h⟩

set_option maxRecDepth 8000
set_option maxHeartbeats 4000000
def afs(l:List dM)(i:Nat)(hi:i<l.length)(c:l.length<2^30)(b g:Nat)(J:ak)(a:J[b]?=some (jK g l)):PC prog 76 [.own b g,.I i,.I ((i:Int)+1)] J (λr J'=>r=.own b (g+1)/\J'=J.set b (jK (g+1) (l.take i++l.drop (i+1)))):=by
 have:=PC.yF Tryz.ark (k:=11) (by':=176) (g:=g) (i:=i) (rows:=l.map dM.awa) (by kernel_rfl) (by simpa using hi) (by simpa using c) a;rw[<- List.map_take,<- List.map_drop,<- List.map_append]at this;exact this
def Uo{J:ak}{M:List dM}{next:Int}{S:ak}(h:CC J M next S)(d:kK M)(o:M.length<=1024)(k:aG)(f:k ∉ M.map dM.key):
  PC prog 32 [.ptr (J.length+4) 0,.s k] S (λr e=>r=.b false/\e=S):=by
 obtain⟨E,L,c,i,g,T,rfl,m,j,l⟩:=h;refine aZ func32 p32.2 λp n=>au ?_;simp only[p32,SS,seval];simp only[V.pure,↓IT,VV,seval];have H:=EI (E:=E) J L c i next g M T d (by omega) k []
 rw[bL]at H;refine aw H rfl ?_;have a:decide (k∈M.map dM.key)=false:=nf f;simp only[a,V.pure,↓IT,VV,seval];exact aO (.inr rfl) rfl ⟨rfl,rfl⟩
def Yl{J:ak}{M:List dM}{next:Int}{S:ak}(h:CC J M next S)(N:kK M)(hM:M.length<=1024)(k:aG)(G:k∈M.map dM.key):
  PC prog 32 [.ptr (J.length+4) 0,.s k] S (λr O=>r=.b true/\CC J (M.take (fN M k)++M.drop (fN M k+1)) next O):=by
 obtain⟨E,L,p,n,g,T,rfl,K,y,Q⟩:=h;obtain⟨d,t,Ht⟩:=(mJ N _).1 G;have aa:L.length=M.length:=by have:=y.length_eq;simpa using this
 have pj:(d.id,d.dz)∈L.map idL:=y.mem_iff.2 (bF.2 ⟨d,bE t,rfl⟩);obtain⟨x,hx,R⟩:=bF.1 pj
 have D:∃v,cX d.id L=some v:=by
  have:d.id∈L.map (·.1):=bF.2 ⟨x,hx,by have:=congrArg Prod.fst R;exact this⟩;exact pB.1 ((kL _ _).1 this)
 obtain⟨⟨l0,m0⟩,u⟩:=D;refine aZ func32 p32.2 λbn dN=>au ?_;have U:fN M k<M.length:=(ah.1 t).1;have EB:gj (M.map dM.awa) (fN M k) 0=some (.I d.id):=by simp[gj,t,dM.awa]
 have SE:(0:Int)<=((fN M k:Nat):Int):=by omega
 have C:((fN M k:Nat):Int)<(M.length:Int):=by omega
 have hw:IntKind.i64.wrap ((fN M k:Int)+1)=(fN M k:Int)+1:=IntWalk.i64_in _ (by omega);have W:(me E J L p n next g M T)[J.length+4]?=some (.box 105 [.ptr (J.length+3) 0,.own (J.length+5) g,.I next]):=by simp[me,ur,LO]
 have hr:(me E J L p n next g M T)[J.length+5]?=some (.row 108 11 176 g false (M.map dM.awa)):=by simp[me,ur,jK]
 simp only[p32,SS,seval];simp only[V.pure,↓IT,VV,seval];have H:=EI (E:=E) J L p n next g M T N (by omega) k []
 rw[bL]at H;refine aw H rfl ?_;have P:decide (k∈M.map dM.key)=true:=lz G;simp only[P,W,hr,EB,SE,C,ag,ao,V.pure,↓IT,VV,seval];have F:=EH (E:=E) J L p n next g M T []
 rw[bL,bL]at F;rw[F];refine cD (MO _ _ L p n J K d.id l0 m0 u (by omega)) rfl ?_;rintro _ O ⟨rfl,i,B,c,a,rfl,A,hG⟩;have w:B[0]?=some (jK g M):=hG.2 0 _ rfl (by simp[jK,still])
 obtain⟨f,rfl⟩:∃f,B=jK g M::f:=by
  cases B with
  |nil=>simp at w
  |cons o f=>simp only[aM,ae]at w;exact⟨f,by rw[w]⟩
 have z:ur i J (na L d.id) c a (LO J.length (.own (J.length+5) g) next) (jK g M::f)=me i J (na L d.id) c a next g M f:=rfl
 rw[z];have q:(me i J (na L d.id) c a next g M f)[J.length+4]?=some (.box 105 [.ptr (J.length+3) 0,.own (J.length+5) g,.I next]):=by simp[me,ur,LO]
 have l:(me i J (na L d.id) c a next g M f)[J.length+5]?=some (jK g M):=by simp[me,ur,jK]
 simp only[q,hw,V.pure,↓IT,VV,seval];refine aw (afs M (fN M k) U (by omega) (J.length+5) g _ l) rfl ?_;have Z:∀o,((me i J (na L d.id) c a next g M f).set (J.length+5) o)[J.length+4]?=some (.box 105 [.ptr (J.length+3) 0,.own (J.length+5) g,.I next]):=λo=>by rw[bz (by omega)];exact q
 have Y:∀j,((me i J (na L d.id) c a next g M f).set (J.length+5) (jK (g+1) j)).set (J.length+4) (.box 105 [.ptr (J.length+3) 0,.own (J.length+5) (g+1),.I next])=me i J (na L d.id) c a next (g+1) j f:=λj=>by simp[me,ur,LO]
 have OF:∀j,((me i J (na L d.id) c a next g M f).set (J.length+5) (jK (g+1) j))[J.length+5]?=some (.row 108 11 176 (g+1) false (j.map dM.awa)):=λj=>by
  rw[aL (ah.1 l).1];rfl
 simp only[Z,Y,OF,V.pure,↓IT,VV,seval];have m:=A.swap (o':=jK (g+1) (M.take (fN M k)++M.drop (fN M k+1))) (X:=[]);rw[bL]at m;exact fH (.inr rfl) rfl (Wk.refl _ _) rfl ⟨rfl,i,na L d.id,c,a,g+1,f,rfl,m,Qx K.keys y t,λe he=>Q e (cZ.1 he).1⟩
def afr{M:List dM}(h:oM M)(i:Nat):oM (M.take i++M.drop (i+1)):=by
 have a:(M.take i++M.drop (i+1)).Sublist M:=by
  rw[<- List.eraseIdx_eq_take_drop_succ];exact List.eraseIdx_sublist _ _
 exact⟨cu a.length_le h.len,h.s6.sublist (a.map _),λs b=>h.ok s (a.mem b)⟩

set_option maxRecDepth 8000
set_option maxHeartbeats 2000000
def adg(m:List En)(a:nj m)(o:∀e∈m,e.awk)(k:aG)(x:En)(d:m[below m k]?=some x)(q:cq x=k)(J:ak):
  bM prog 31 [.sl 8 (m.map En.awa),.s k] J (.iQ [.sl 8 ((m.take (below m k)++m.drop (below m k+1)).map En.awa),.b true]):=by
 refine aZ func31 p31.2 λp t=>au ?_;have u:=a.len;have r:=(ah.1 d).1;have c:=Bd k a.s6
 have g:find m k=(below m k:Int):=by
  have:find m k=if below m k=m.length\/(m.map cq).getD (below m k) []≠k then -1 else(below m k:Int):=by
   simp only[find,a.keys,c,ag,mg,nk]
  rw[this,an];rintro(h|h)
  .omega
  .exact h (by simp[aq,d,q])
 have f:IntKind.i64.wrap ((below m k:Int)+1)=((below m k+1:Nat):Int):=cm (by omega);have i:decide ((below m k:Int)<0)=false:=by simp
 have n:(List.take (below m k) (m.map En.awa)).length=below m k:=by rw[aP,ag];omega
 have j:List.take (m.length - (below m k+1)) (List.drop (below m k+1) (m.map En.awa))=List.drop (below m k+1) (m.map En.awa):=bW (by simp);have l:(List.drop (below m k+1) (m.map En.awa)).length=m.length - (below m k+1):=by simp
 simp only[p31,SS,seval];simp only[V.pure,↓IT,VV,seval];refine aw (WY m a o k _) rfl ?_;rw[g];simp only[i,f,n,j,l,ag,ao,V.pure,↓IT,VV,seval];refine⟨⟨by omega,by omega⟩,⟨by omega,by omega,by omega⟩,⟨by omega,by unfold maxLen;omega⟩,⟨by omega,by omega,by omega⟩,⟨by omega,by unfold maxLen;omega⟩,?_⟩;refine mW 0 p (.inr rfl) rfl rfl ?_ ?_
 .simp[fz,oa,LW]
 .refine⟨?_,rfl⟩;simp[fz,oa,eu,eO];rfl
def ahJ{S:ak}{n0:Nat}{K:bl}(f g:Nat)(M:List dM)(x:M.length<=1024)(r:∀s∈M,s.en.awk)(j:S[f]?=some (jK g M)):∀(rest pre:List dM) (T:ak) (b:Nat),M=pre++rest ->
  (∀w c,((fj 3 (fh (.own S.length c) (fj 19 fo))) λo=>K (.exit 0) ⟨o,S++(.row 37 8 128 c false ((M.map dM.en).map En.awa)::w)⟩)) ->
  fm n0 prog Vn K (rest.length+1) ⟨(uu 3 (.own S.length b::uu 5 (.own f g::.I M.length::.I pre.length::uu 11 []))),S++(.row 37 8 128 b false ((pre.map dM.en).map En.awa)::T)⟩:=by
 have u:=(ah.1 j).1;have t:∀l,(S++l)[f]?=some (.row 108 11 176 g false (M.map dM.awa)):=λl=>by rw[ay u];exact j
 intro rest
 induction rest with
 |nil =>
  intro pre T b a e;have a:=cN a
  subst a;refine ar λR m=>?_;simp only[Vn,VV,seval];exact⟨λh=>by simp at h,λ_=>e T b ..⟩
 |cons s rest ih =>
  intro pre T b a e;have y:=mT a
  have q:=dh pre s (by omega)
  have i:(M.map dM.awa).getD pre.length []=s.awa:=by rw[a];simp[aq]
  have n:decide ((pre.length:Int)<(M.length:Int))=true:=by simp;omega
  have p:(0:Int)<=(pre.length:Int)/\(pre.length:Int)<(M.length:Int):=by omega
  have d:=r s (by rw[a];simp);simp only[dM.awa]at i;refine ar λR m=>?_;simp only[Vn,t,i,n,ag,ao,V.pure,↓IT,VV,seval];refine⟨p,?_⟩;refine aw (Kx s.en (by have:=d.awc;omega) (by have:=d.awf;omega) _) (by simp only[En.awa,VV,seval]) ?_;simp only[En.awa,q,ag,V.pure,↓IT,VV,seval];have v:((pre.map dM.en).map En.awa)++[[V.sl 3 (s.en.awc.map It.awa),.sl 3 (s.en.awf.map It.awa),.s s.en.bU,.s s.en.next,.s s.en.c8,.s s.en.cA,.I s.en.awh,.I s.en.awq]]=(((pre++[s]).map dM.en).map En.awa):=by simp[En.awa]
  have k:=ih (pre++[s]) (T++[.box 108 s.awa]) (b+1) (by simp[a]) e;rw[<- v]at k;simp only[dM.awa]at k;exact⟨⟨by omega,by unfold maxLen;omega⟩,m _ (aK (by repeat' constructor) k)⟩
def G6{J:ak}{M:List dM}{next:Int}{S:ak}(h:CC J M next S)(i:M.length<=1024)(o:∀s∈M,s.en.awk):
  PC prog 28 [.ptr (J.length+4) 0] S (λr p=>r=.sl 8 ((M.map dM.en).map En.awa)/\p=S):=by
 obtain⟨E,L,v,u,g,T,c,n,m,f⟩:=h;have d:S[J.length+4]?=some (.box 105 [.ptr (J.length+3) 0,.own (J.length+5) g,.I next]):=by rw[c];simp[me,ur,LO]
 have b:S[J.length+5]?=some (jK g M):=by rw[c];simp[me,ur,jK]
 clear c n m f;have t:∀l,(S++l)[J.length+4]?=some (.box 105 [.ptr (J.length+3) 0,.own (J.length+5) g,.I next]):=λl=>by rw[ay (ah.1 d).1];exact d
 have w:∀l,(S++l)[J.length+5]?=some (.row 108 11 176 g false (M.map dM.awa)):=λl=>by rw[ay (ah.1 b).1];exact b
 refine aZ func28 p28.2 λj q=>?_;simp only[p28,SS,seval];refine bZ.cut λR a=>?_;simp only[VV,seval];refine a _ (bZ.fg (fr':=(.ptr (J.length+4) 0::uu 22 [])) ?_ (by repeat' constructor));clear a R;refine bZ.cut λR a=>?_;simp only[VV,seval];refine a _ (bZ.fg (fr':=(.ptr (J.length+4) 0::uu 2 (.nil::uu 19 []))) ?_ (by repeat' constructor));clear a R;refine bZ.cut λR a=>?_;simp only[d,b,jK,ag,V.pure,↓IT,VV,seval];refine bZ.wk ((Wk.ij (P:=prog) (J:=S) (k:=3) Iq rfl).trans (Wk.fg (ys:=(uu 3 (.own S.length 0::uu 5 (.own (J.length+5) g::.I M.length::.I (([]:List dM).length:Nat)::uu 11 [])))) ?_)) (bZ.uh (M.length+1) (ahJ (J.length+5) g M i o b M [] [] 0 rfl ?_))
 .simp only[VV,seval]
  repeat' constructor
 intro x e;simp only[JE];intros;simp only[VV,seval];refine a _ (bZ.fg (fr':=(uu 3 (.own S.length e::uu 19 []))) (au ?_) (by repeat' constructor));clear a R;simp only[VV,seval];refine mW 0 j (.inr rfl) rfl rfl ?_ ?_
 .simp[fz,oa,LW]
 .refine⟨?_,rfl⟩;simp[fz,oa];rfl

set_option maxRecDepth 4000
set_option maxHeartbeats 1000000
def xA(m:List En)(x:Mt):Int:=((m[x.awg.toNat]?).map λe=>e.awh).getD 0
def OZ(M:List dM):crF M=xA (M.map dM.en):=by
 funext x;simp[crF,xA];rfl
def ye(c:Mt->Int)(a b:Mt):kX c a b<0<->(if a.score≠b.score then b.score<a.score else if a.iC≠b.iC then b.iC<a.iC else if c a≠c b then c b<c a else a.awg<b.awg):=by
 simp only[kX,AK,ox]
 (repeat' split)<;>(try simp_all)<;>omega
def TF{J:ak}{K:bl}(l:List Mt)(k:l.length<2^30):∀(rest pre:List Mt),l=pre++rest ->
  (((fj 26 fo) λi=>K (.exit 0) ⟨i,J⟩)) ->
  fm J.length prog D4 K (rest.length+1) ⟨(.sl 5 (l.map Mt.awa)::.sl 5 (l.map Mt.awa)::uu 10 (.I l.length::.I pre.length::uu 12 [])),J⟩:=by
 intro rest
 induction rest with
 |nil =>
  intro pre a b;have a:=cN a
  subst a;refine ar λR d=>?_;simp only[D4,VV,seval];exact⟨λh=>by simp at h,λ_=>b ..⟩
 |cons y rest ih =>
  intro pre a b;have j:=mT a
  have g:=dh pre y (by omega)
  have c:(List.map Mt.awa l).getD pre.length []=y.awa:=by rw[a];simp[aq]
  have f:decide ((pre.length:Int)<(l.length:Int))=true:=by simp;omega
  have e:(0:Int)<=(pre.length:Int)/\(pre.length:Int)<(l.length:Int):=by omega
  simp only[Mt.awa]at c;refine ar λR d=>?_;simp only[D4,c,f,g,Ut,kO,ag,ao,V.pure,↓IT,VV,seval];refine⟨e,e,?_⟩;exact d _ (aK (by repeat' constructor) (ih (pre++[y]) (by simp[a]) b))
def IF(l:List Mt)(c:l.length<2^30)(J:ak):bM prog 25 [.sl 5 (l.map Mt.awa),.sl 5 (l.map Mt.awa)] J (.b true):=by
 refine aZ func25 p25.2 λe d=>au ?_;have a:((l.length:Int) != (l.length:Int))=false:=by simp
 simp only[p25,SS,seval];simp only[ag,a,V.pure,↓IT,VV,seval];refine bZ.aK (fr':=(.sl 5 (l.map Mt.awa)::.sl 5 (l.map Mt.awa)::uu 10 (.I l.length::.I (([]:List Mt).length:Nat)::uu 12 []))) (by repeat' constructor) (l.length+1) (TF l c l [] rfl ?_);simp only[JE];intros;simp only[VV,seval];exact aO (.inr rfl) rfl ⟨rfl,rfl⟩

set_option maxRecDepth 20000
set_option maxHeartbeats 4000000
def BA{J:ak}{l:bH}:J++[.box 31 [.sl 1 (l.map bV),.I 0]]=gT (J++[.dead]) J.length l 0:=by
 simp[gT]
def po{e:En}{k:Nat}(a:k<=20)(h:pL k e):e.awk/\(dz e.awc).length<=2^20 :=
 ⟨h.awk a,by have:=tx e.awc;have:=h.jr;have:=h.ie;omega⟩
def yA{a:List Pn}(h:∀p∈a,xn p)(b:a.length<=3):rk a=0:=by
 unfold rk;rw[an (by omega)]
 induction a with
 |nil=>rfl
 |cons p a ih =>
  have d:=(h p (by simp)).ok;have c:=ih (λx e=>h x (by simp[e])) (by simp at b;omega);simp only[lM,d,c];rfl

set_option maxRecDepth 8000
set_option maxHeartbeats 2000000
def vK(l:List Pn)(q:Qr)(tq:List It):∀(M:List dM) (i:Nat),(nG l q tq i M).Pairwise λa b=>a.awg<b.awg
 |[],i=>.nil
 |s::r,i=>by
  rw[nG];split
  .rw[fI,dx];exact⟨λm c=>by have:=(tS l q tq r (i+1) m c).1;simp only;omega,vK l q tq r (i+1)⟩
  .exact vK l q tq r (i+1)
def O8{A:List Mt}(h:A.Pairwise λa b=>a.awg<b.awg){a b:Mt}(d:a∈A)(f:b∈A)(e:a.awg=b.awg):a=b:=by
 induction A with
 |nil=>cases d
 |cons x A ih =>
  have h:=dx.1 h;rcases bC.1 d with h1|h1<;>rcases bC.1 f with c|c
  .rw[h1,c]
  .have:=h.1 b c;rw[<- h1]at this;omega
  .have:=h.1 a h1;rw[<- c]at this;omega
  .exact ih h.2 h1 c
def zw{c:Mt->Int}{a b:Mt}(h1:¬kX c a b<0)(d:¬kX c b a<0):a.awg=b.awg:=by
 rw[ye]at h1 d
 (repeat' split at h1)<;>(repeat' split at d)<;>omega
def Fw{A:List Mt}(l:A.Pairwise λa b=>a.awg<b.awg){d:Mt->Int}{x y:List Mt}(e:x.Perm y)(c:∀m∈y,m∈A)(j:x.Pairwise λa b=>¬kX d b a<0)(f:y.Pairwise λa b=>¬kX d b a<0):x=y :=
 pC (λa b g k i h=>O8 l (c a (e.mem_iff.1 g)) (c b k) (zw h i)) j f e
def nM(t:Int):Nat->List Mt->Nat
 |_,[]=>0
 |0,_=>0
 |n+1,a::x=>if t<=a.score then nM t n x+1 else 0

set_option maxRecDepth 8000
set_option maxHeartbeats 4000000
def DK(a b:Int)(J:ak):bM prog 140 [.I a,.I b] J (.I (ox a b)):=by
 refine aZ func140 al6.2 λe d=>au ?_;simp only[al6,SS,seval];simp only[VV,seval];refine⟨λh=>?_,λh=>⟨λc=>?_,λc=>?_⟩⟩
 .have h:a<b:=by simpa using h
  exact aO (.inr rfl) rfl ⟨by simp[ox,h];rfl,rfl⟩
 .have h:¬a<b:=by simpa using h
  have c:b<a:=by simpa using c
  exact aO (.inr rfl) rfl ⟨by simp[ox,h,c];rfl,rfl⟩
 .have h:¬a<b:=by simpa using h
  have c:¬b<a:=by simpa using c
  exact aO (.inr rfl) rfl ⟨by simp[ox,h,c];rfl,rfl⟩
def ahx{S:ak}{n0:Nat}{K:bl}(j d e f:Int):∀(rest pre:bH),[j,d,e,f]=pre++rest ->
  (AK rest≠0->((fj 6 (fh (.b (decide (AK rest<0))) (fj 39 fo))) λm=>K .ret ⟨m,S⟩))->(AK rest=0->((fj 46 fo) λm=>K (.exit 0) ⟨m,S⟩)) ->
  fm n0 prog U7 K (rest.length+1) ⟨(uu 37 (.agg [.I j,.I d,.I e,.I f]::.I pre.length::uu 7 [])),S⟩:=by
 intro rest
 induction rest with
 |nil =>
  intro pre g a k;have o:pre.length=4:=by have:=congrArg List.length g;simpa using this.symm
  have l:decide ((pre.length:Int)<4)=false:=by rw[o];rfl
  refine ar λR p=>?_;simp only[U7,l,V.pure,↓IT,VV,seval];exact k rfl ..
 |cons c rest ih =>
  intro pre g a k;have o:pre.length+(rest.length+1)=4:=by have:=congrArg List.length g;simpa using this.symm
  have s:=dh pre c (by omega)
  have l:decide ((pre.length:Int)<4)=true:=by simp;omega
  have q:([V.i .i64 j,.I d,.I e,.I f]:aB).getD pre.length .u=.I c:=by
   have t:([j,d,e,f].map (V.i .i64))[pre.length]?=some (.I c):=by rw[g];simp
   have r:([V.i .i64 j,.I d,.I e,.I f]:aB)[pre.length]?=some (.I c):=t;rw[aq,r];rfl
  refine ar λR p=>?_;simp only[U7,l,q,s,ao,V.pure,↓IT,VV,seval];refine⟨⟨by omega,by omega⟩,λh=>?_,λh=>?_⟩
  .have h:c≠0:=by simpa using h
   have n:AK (c::rest)=c:=by simp[AK,h]
   rw[n]at a;exact a h ..
  .have h:c=0:=by simpa using h
   have n:AK (c::rest)=AK rest:=by simp[AK,h]
   rw[n]at a k;exact p _ (aK (by repeat' constructor) (ih (pre++[c]) (by simp[g]) a k))
def abK(m:List En)(t:m.length<2^30)(a b:Mt)(j:0<=a.awg/\a.awg<m.length)(i:0<=b.awg/\b.awg<m.length)(J:ak):
  bM prog 78 [.sl 8 (m.map En.awa),.agg a.awa,.agg b.awa] J (.b (decide (kX (xA m) a b<0))):=by
 refine aZ func78 c78 λl s=>au ?_;have p:∃x,m[a.awg.toNat]?=some x/\xA m a=x.awh:=⟨m[a.awg.toNat]'(by omega),ax _,by simp[xA,ax (show a.awg.toNat<m.length by omega)]⟩;have r:∃x,m[b.awg.toNat]?=some x/\xA m b=x.awh:=⟨m[b.awg.toNat]'(by omega),ax _,by simp[xA,ax (show b.awg.toNat<m.length by omega)]⟩;obtain⟨e,g,q⟩:=p;obtain⟨f,o,n⟩:=r;have c:gj (m.map En.awa) a.awg.toNat 6=some (.I e.awh):=by simp[gj,g,En.awa]
 have d:gj (m.map En.awa) b.awg.toNat 6=some (.I f.awh):=by simp[gj,o,En.awa]
 simp only[p78,SS,seval];simp only[Mt.awa,c,d,ag,V.pure,↓IT,VV,seval];refine⟨i,j,?_⟩;refine aw (DK b.score a.score _) rfl ?_;simp only[c,d,ag,V.pure,↓IT,VV,seval];refine⟨⟨i,j⟩,?_⟩;refine aw (DK b.iC a.iC _) rfl ?_;simp only[c,d,ag,V.pure,↓IT,VV,seval];refine⟨⟨i,j⟩,?_⟩;refine aw (DK f.awh e.awh _) rfl ?_;simp only[c,d,ag,V.pure,↓IT,VV,seval];refine aw (DK a.awg b.awg _) rfl ?_;simp only[c,d,ag,V.pure,↓IT,VV,seval];have k:kX (xA m) a b=AK [ox b.score a.score,ox b.iC a.iC,ox f.awh e.awh,ox a.awg b.awg]:=by rw[kX,q,n]
 rw[k];generalize ox b.score a.score=c0;generalize ox b.iC a.iC=c1;generalize ox f.awh e.awh=c2;generalize ox a.awg b.awg=c3;refine bZ.aK (fr':=(uu 37 (.agg [.I c0,.I c1,.I c2,.I c3]::.I (([]:bH).length:Nat)::uu 7 []))) (by repeat' constructor) ([c0,c1,c2,c3].length+1) (ahx c0 c1 c2 c3 [c0,c1,c2,c3] [] rfl (λh=>?_) (λh=>?_))
 .simp only[JE];intros;simp only[VV,seval];exact bg l (.inr rfl) (by simp only[RS,seval];rfl) (by simp[LW]) ⟨rfl,rfl⟩
 .rw[h];simp only[JE];intros;simp only[VV,seval];exact bg l (.inr rfl) (by simp only[RS,seval];rfl) (by simp[LW]) ⟨rfl,rfl⟩

set_option maxRecDepth 8000
set_option maxHeartbeats 4000000
def uw(a:Mt->Int)(x:Mt)(out:List Mt):Nat:=(out.takeWhile λy=>decide (kX a y x<0)).length
def wv(a:Mt->Int)(out:List Mt)(x:Mt):List Mt:=out.take (uw a x out)++x::out.drop (uw a x out)
def Yy(a:Mt->Int)(x:Mt)(out:List Mt):uw a x out<=out.length:=qX (qU _)
def aaB{S:ak}{n0:Nat}{K:bl}(r p f g i:V)(m:List En)(C:m.length<2^30)(out:List Mt)(F:out.length<2^30)(D:∀a∈out,0<=a.awg/\a.awg<m.length)(x:Mt)(B:0<=x.awg/\x.awg<m.length)(z:Nat)(k:S[z]?=some (.box 44 x.awa)):∀(rest pre:List Mt),out=pre++rest ->
  (((fh (.sl 8 (m.map En.awa)) (fh (r) (fj 3 (fh (p) (fj 4 (fh (.sl 5 (out.map Mt.awa)) (fh (f) (fh (.ptr z 0) (fh (.I (pre.length+uw (xA m) x rest:Nat)) (fj 12 (fh (g) (fh (i) (fj 51 fo))))))))))))) λt=>K (.exit 2) ⟨t,S⟩)) ->
  fm n0 prog Vl K (rest.length+1) ⟨(.sl 8 (m.map En.awa)::r::uu 3 (p::uu 4 (.sl 5 (out.map Mt.awa)::f::.ptr z 0::.I pre.length::uu 12 (g::i::uu 51 [])))),S⟩:=by
 simp only[Mt.awa]at k;intro rest
 induction rest with
 |nil =>
  intro pre d e;have d:out=pre:=by simpa using d
  have s:uw (xA m) x []=0:=rfl;rw[s,de]at e;have j:decide ((pre.length:Int)<(out.length:Int))=false:=by rw[d];simp
  refine ar λR q=>?_;simp only[Vl,j,k,ag,V.pure,↓IT,VV,seval];refine⟨nofun,.u,nofun,?_⟩;refine bB (c:=false) (v:=.b false) (by simp only[VV,seval]<;>rfl) nofun rfl ?_;simp only[V.pure,↓IT,VV,seval];exact e ..
 |cons y rest ih =>
  intro pre d e;have E:=mT d
  have o:=dh pre y (by omega)
  have n:(List.map Mt.awa out).getD pre.length []=y.awa:=by rw[d];simp[aq]
  have j:decide ((pre.length:Int)<(out.length:Int))=true:=by simp;omega
  have w:(0:Int)<=(pre.length:Int)/\(pre.length:Int)<(out.length:Int):=by omega
  have A:=D y (by rw[d];simp);simp only[Mt.awa]at n;refine ar λR q=>?_;simp only[Vl,j,n,k,o,ag,ao,V.pure,↓IT,VV,seval];refine⟨w,_,rfl,?_⟩;refine bB (c:=true) (by simp only[VV,seval]<;>rfl) (λ_=>abK m C y x A B _) rfl ?_;simp only[o,V.pure,↓IT,VV,seval];refine⟨λh=>?_,λh=>?_⟩
  .have l:pre.length+uw (xA m) x (y::rest)=(pre++[y]).length+uw (xA m) x rest:=by
    simp only[uw,cy,h,aT,ai,aj,al];omega
   rw[l]at e;exact q _ (aK (by repeat' constructor) (ih (pre++[y]) (by simp[d]) e))
  .have l:uw (xA m) x (y::rest)=0:=by
    simp only[uw,cy,h];rfl
   rw[l,de]at e;exact e ..
def tR(l:List Pn)(q:Qr):Nat->List En->List Mt
 |_,[]=>[]
 |i,e::r=>(if q.threshold<=(qL e l q).score then[{ qL e l q with awg:=i }]else[])++tR l q (i+1) r
def aaA{n0:Nat}{J:ak}{K:bl}(Z:cn J)(hn:n0<=J.length)(z:Nat)(m:List En)(hm:m.length<=1024)(b:List Pn)(q:Qr)(r:J[z]?=some (.box 24 q.awa))(ku:∀e∈m,KQ e b q):∀(rest pre:List En) (out:List Mt),m=pre++rest->out.length<=pre.length->(∀a∈out,0<=a.awg/\a.awg<m.length) ->
  (((fj 5 (fh (.ptr z 0) (fj 4 (fh (.sl 5 (((tR b q pre.length rest).foldl (wv (xA m)) out).map Mt.awa)) (fj 68 fo))))) λZZ=>K (.exit 0) ⟨ZZ,J⟩)) ->
  fm n0 prog Vk K (rest.length+1) ⟨(.sl 8 (m.map En.awa)::.sl 5 (b.map Pn.awa)::uu 3 (.ptr z 0::uu 4 (.sl 5 (out.map Mt.awa)::uu 15 (.I m.length::.I pre.length::uu 51 [])))),J⟩:=by
 have Rp:=r;simp only[Qr.awa]at r;have S:=(ah.1 r).1;have u:∀T,(J++T)[z]?=some (.box 24 [.sl 3 (q.awc.map It.awa),.s q.bU,.s q.next,.I q.now,.I q.threshold,.I q.gJ]):=λT=>by rw[ay S];exact r
 intro rest
 induction rest with
 |nil =>
  intro pre out n ho v y;have n:m=pre:=by simpa using n
  have C:decide ((pre.length:Int)<(m.length:Int))=false:=by rw[n];simp
  refine ar λR Q=>?_;simp only[Vk,C,V.pure,↓IT,VV,seval];exact y ..
 |cons e rest ih =>
  intro pre out n ho v y;have TY:=mT n
  have hw:=dh pre e (by omega)
  have G:(List.map En.awa m).getD pre.length []=e.awa:=by rw[n];exact um
  have C:decide ((pre.length:Int)<(m.length:Int))=true:=by simp;omega
  have O:(0:Int)<=(pre.length:Int)/\(pre.length:Int)<(m.length:Int):=by omega
  have hi:=ku e (by rw[n];simp);simp only[En.awa]at G;refine sN λR Q=>?_;simp only[Vk];refine bZ.cut λB p=>?_;simp only[C,V.pure,↓IT,VV,seval];refine p _ ?_;clear p B;refine bZ.cut λB p=>?_;simp only[V.pure,↓IT,VV,seval];refine p _ (bZ.fg (fr':=(.sl 8 (m.map En.awa)::.sl 5 (b.map Pn.awa)::uu 3 (.ptr z 0::uu 4 (.sl 5 (out.map Mt.awa)::uu 15 (.I m.length::.I pre.length::uu 51 []))))) ?_ (by repeat' constructor));clear p B;refine bZ.HC λH U=>bZ.lZ ?_
  have again:∀(c:List Mt) (ext:ak) {l:aB} {j:ak},(tR b q pre.length (e::rest)).foldl (wv (xA m)) out=(tR b q (pre++[e]).length rest).foldl (wv (xA m)) c->c.length<=out.length+1->(∀a∈c,0<=a.awg/\a.awg<m.length)->Wk prog n0 l j (.sl 8 (m.map En.awa)::.sl 5 (b.map Pn.awa)::uu 3 (.ptr z 0::uu 4 (.sl 5 (c.map Mt.awa)::uu 15 (.I m.length::.I pre.length::uu 51 [])))) (J++ext)->H ⟨l,j⟩:=by
   intro c ext l j c1 c2 c3 t;rw[c1]at y;refine U _ (bZ.wk t (au ?_));simp only[hw,VV,seval]
   have wx:Wk prog n0 (.sl 8 (m.map En.awa)::.sl 5 (b.map Pn.awa)::uu 3 (.ptr z 0::uu 4 (.sl 5 (c.map Mt.awa)::uu 15 (.I m.length::.I (pre++[e]).length::uu 51 [])))) (J++ext) (.sl 8 (m.map En.awa)::.sl 5 (b.map Pn.awa)::uu 3 (.ptr z 0::uu 4 (.sl 5 (c.map Mt.awa)::uu 15 (.I m.length::.I (pre++[e]).length::uu 51 [])))) J :=
    Wk.A2 hn Z (gZ.1 (by simp only[LW];exact S))
   exact Q _ (rF ((Wk.fg (by repeat' constructor)).trans wx) (ih (pre++[e]) c (by simp[n]) (by rw[aj,eI];omega) c3 y))
  refine bZ.cut λf d=>?_;simp only[V.pure,VV,seval];refine d _ (bZ.fg (fr':=(.sl 8 (m.map En.awa)::.sl 5 (b.map Pn.awa)::uu 3 (.ptr z 0::uu 4 (.sl 5 (out.map Mt.awa)::.I pre.length::uu 14 (.I m.length::.I pre.length::uu 51 []))))) ?_ (by repeat' constructor));clear d f;refine bZ.cut λf d=>?_;simp only[r,u,G,ag,ao,V.pure,VV,seval];refine⟨O,λX=>?_⟩;refine aw (Qb hi _) (by simp only[En.awa,Qr.awa,VV,seval]) ?_;simp only[Mt.awa,V.pure,VV,seval];refine d _ (bZ.fg (fr':=(.sl 8 (m.map En.awa)::.sl 5 (b.map Pn.awa)::uu 3 (.ptr z 0::uu 4 (.sl 5 (out.map Mt.awa)::.I pre.length::.ptr J.length 0::uu 13 (.I m.length::.I pre.length::uu 51 []))))) ?_ (by repeat' constructor));clear d f;refine bZ.cut λf d=>?_;simp only[V.pure,VV,seval];obtain⟨x,w⟩:∃x:Mt,x={ qL e b q with awg:=pre.length }:=⟨_,rfl⟩;have i:x.awa=[.I pre.length,.I (qL e b q).iC,.I (qL e b q).context,.I (qL e b q).points,.I (qL e b q).score]:=by rw[w];rfl
  have D:x.score=(qL e b q).score:=by rw[w]
  have L:0<=x.awg/\x.awg<m.length:=by rw[w];exact O
  have P:tR b q pre.length (e::rest)=(if q.threshold<=x.score then[x]else[])++tR b q (pre.length+1) rest:=by rw[tR,D,w]
  rw[<- i];refine d _ (bZ.fg (fr':=(.sl 8 (m.map En.awa)::.sl 5 (b.map Pn.awa)::uu 3 (.ptr z 0::uu 4 (.sl 5 (out.map Mt.awa)::.I pre.length::.ptr J.length 0::uu 13 (.I m.length::.I pre.length::uu 51 []))))) ?_ (by repeat' constructor));clear d f;refine bZ.cut λf d=>?_;simp only[i,u,V.pure,VV,seval];rw[<- i];refine⟨λh=>?_,λh=>?_⟩
  .have h:¬q.threshold<=x.score:=by rw[D];simp at h;omega
   refine again out [.box 44 x.awa] ?_ (by omega) v (Wk.fg (by repeat' constructor));rw[P,an h,bc,aj,eI]
  have h:q.threshold<=x.score:=by rw[D];simp at h;omega
  refine d _ (bZ.fg (fr':=(.sl 8 (m.map En.awa)::.sl 5 (b.map Pn.awa)::uu 3 (.ptr z 0::uu 4 (.sl 5 (out.map Mt.awa)::.I pre.length::.ptr J.length 0::uu 13 (.I m.length::.I pre.length::uu 51 []))))) ?_ (by repeat' constructor));clear d f;refine bZ.cut λf d=>?_;simp only[V.pure,VV,seval];refine d _ (bZ.fg (fr':=(.sl 8 (m.map En.awa)::.sl 5 (b.map Pn.awa)::uu 3 (.ptr z 0::uu 4 (.sl 5 (out.map Mt.awa)::.I pre.length::.ptr J.length 0::.I (([]:List Mt).length:Nat)::uu 12 (.I m.length::.I pre.length::uu 51 []))))) ?_ (by repeat' constructor));clear d f;refine bZ.cut λf d=>?_;simp only[VV,seval];refine bZ.aK (fr':=(.sl 8 (m.map En.awa)::.sl 5 (b.map Pn.awa)::uu 3 (.ptr z 0::uu 4 (.sl 5 (out.map Mt.awa)::.I pre.length::.ptr J.length 0::.I (([]:List Mt).length:Nat)::uu 12 (.I m.length::.I pre.length::uu 51 []))))) (by repeat' constructor) (out.length+1) (aaB _ _ _ _ _ m (by omega) out (by omega) v x L J.length (by simp) out [] rfl ?_);rw[al,aY];have Y:=Yy (xA m) x out;obtain⟨k,N⟩:∃k,k=uw (xA m) x out:=⟨_,rfl⟩;rw[<- N]at Y |-;simp only[JE];intros;simp only[VV,seval];refine d _ (bZ.fg (fr':=(.sl 8 (m.map En.awa)::.sl 5 (b.map Pn.awa)::uu 3 (.ptr z 0::uu 4 (.sl 5 (out.map Mt.awa)::uu 1 (.ptr J.length 0::.I (k:Nat)::uu 12 (.I m.length::.I pre.length::uu 51 [])))))) ?_ (by repeat' constructor));clear d f;have vI:out.length<=1024:=by omega
  have t2:List.take (out.length - k) (List.drop k (out.map Mt.awa))=List.drop k (out.map Mt.awa):=bW (by simp)
  have F:∀(ext:ak) {l:aB} {j:ak},Wk prog n0 l j (.sl 8 (m.map En.awa)::.sl 5 (b.map Pn.awa)::uu 3 (.ptr z 0::uu 4 (.sl 5 ((wv (xA m) out x).map Mt.awa)::uu 15 (.I m.length::.I pre.length::uu 51 [])))) (J++ext)->H ⟨l,j⟩:=λext l j t=>by
   refine again (wv (xA m) out x) ext ?_ ?_ (λa M=>?_) t
   .rw[P,az h,fI,dW,aj,eI]
   .rw[wv,aj,aP,ai,bA];omega
   .rw[wv]at M;rcases bP.1 M with o|o
    .exact v a (cF o)
    .rcases bC.1 o with rfl|o
     .exact L
     .exact v a (cH o)
  refine bZ.cut λf d=>?_;simp only[i,t2,ag,ao,V.pure,VV,seval]
  have last:∀(ext:ak) {l:aB} {j:ak},Wk prog n0 l j (.sl 8 (m.map En.awa)::.sl 5 (b.map Pn.awa)::uu 3 (.ptr z 0::uu 4 (.sl 5 (out.map Mt.awa)::uu 2 (.I (k:Nat)::.sl 5 ((x::out.drop k).map Mt.awa)::uu 11 (.I m.length::.I pre.length::uu 51 []))))) (J++ext)->f ⟨l,j⟩:=λext l j t=>by
   refine d _ (bZ.wk t (au ?_));simp only[ag,ao,V.pure,VV,seval];refine⟨⟨by omega,by omega⟩,⟨by rw[aP,ag];omega,by rw[aP,ag];unfold maxLen;omega⟩,⟨by rw[aP,ag,bA];omega,by rw[aP,ag,bA];unfold maxLen;omega⟩,?_⟩;have W:List.take k (out.map Mt.awa)++x.awa::(out.drop k).map Mt.awa=(wv (xA m) out x).map Mt.awa:=by rw[wv,<- N];simp[eu]
   rw[W];refine F _ ((Wk.rZ ext.length (E:=44) (sz:=5) (by':=40) (g:=1) (sh:=false) (rows:=(wv (xA m) out x).map Mt.awa) (by simp)).trans (Wk.fg ?_));simp only[aH,bR,fz,oa,jx,aT,VV,seval]
   repeat' constructor
  refine⟨⟨by omega,by omega,by omega⟩,⟨by rw[bA,ag];omega,by rw[bA,ag];unfold maxLen;omega⟩,?_⟩;cases A:(List.drop k (out.map Mt.awa)).isEmpty
  .simp only[aI,aS];rw[<- i,<- List.map_drop];refine last _ ((Wk.rZ 1 (E:=44) (sz:=5) (by':=40) (g:=0) (sh:=false) (rows:=x.awa::(out.drop k).map Mt.awa) rfl).trans (Wk.fg ?_));simp only[aH,bR,fz,oa,jx,aT,VV,seval]
   repeat' constructor
  .simp only[aT];rw[<- i]
   have OH:out.drop k=[]:=by
    have:List.drop k (out.map Mt.awa)=[]:=List.isEmpty_iff.1 A;rw[<- List.map_drop]at this;exact List.map_eq_nil_iff.1 this
   refine last _ (Wk.fg ?_);rw[OH]
   repeat' constructor

set_option maxRecDepth 8000
set_option maxHeartbeats 4000000
def XL(a:Mt->Int)(out:List Mt)(x:Mt):(wv a out x).Perm (x::out):=by
 unfold wv;refine uf.trans ?_;rw[dZ]
def Rk{g:Mt->Int}{out:List Mt}(h:out.Pairwise λa b=>¬kX g b a<0)(x:Mt):(wv g out x).Pairwise λa b=>¬kX g b a<0:=by
 unfold wv uw
 induction out with
 |nil=>simp
 |cons y out ih =>
  have d:=dx.1 h;rw[cy]
  by_cases e:kX g y x<0
  .simp only[e,fW,aT,ai,dt,iJ,bJ,dx];refine⟨λb f=>?_,ih d.2⟩;rcases bP.1 f with c|c
   .exact d.1 b (cF c)
   .rcases bC.1 c with rfl|c
    .have:=(MF g).my b y;omega
    .exact d.1 b (cH c)
  .simp only[e,xF,aI,aS,al,mA,mD,bc,dx];refine⟨λb f=>?_,d.1,d.2⟩;rcases bC.1 f with rfl|f
   .exact e
   .have c:=d.1 b f;intro i;rw[ye]at e c i
    (repeat' split at e)<;>(repeat' split at c)<;>(repeat' split at i)<;>omega
def BH(a:Mt->Int):∀(xs out:List Mt),(xs.foldl (wv a) out).Perm (xs++out)
 |[],out=>ajo _
 |x::xs,out=>by
  rw[dW];refine(BH a xs _).trans ?_;refine((XL a out x).append_left xs).trans ?_;exact uf
def G1{c:Mt->Int}:∀(xs:List Mt) {out:List Mt},(out.Pairwise λa b=>¬kX c b a<0)->(xs.foldl (wv c) out).Pairwise λa b=>¬kX c b a<0
 |[],out,h=>h
 |x::xs,out,h=>by
  rw[dW];exact G1 xs (Rk h x)
def HY(l:List Pn)(q:Qr):∀(M:List dM) (i:Nat),(∀s∈M,s.dz=dz s.en.awc)->tR l q i (M.map dM.en)=nG l q (dz q.awc) i M
 |[],i,_=>rfl
 |s::r,i,h=>by
  have e:jB s.en s.dz (dz q.awc) l q=qL s.en l q:=by rw[h s (by simp)];rfl
  rw[aH,tR,nG,HY l q r (i+1) (λs a=>h s (by simp[a])),e]
def ZI(m:List En)(l:m.length<=1024)(b:List Pn)(q:Qr)(n:∀e∈m,KQ e b q)(h1:q.bU.length<2^30)(j:q.next.length<2^30)(g:fi q=0)(i:b.length<2^40)(h:rk b=0)(J:ak):
  bM prog 33 [.sl 8 (m.map En.awa),.sl 5 (b.map Pn.awa),.agg q.awa] J (.iQ [.sl 5 ((((tR b q 0 m).foldl (wv (xA m)) []).take q.gJ.toNat).map Mt.awa),.I 0]):=by
 refine aZ func33 c33 λf r=>au ?_;simp only[p33,SS,seval];simp only[Qr.awa,V.pure,↓IT,VV,seval];refine aw (BY q h1 j _) (by simp only[Qr.awa,VV,seval]) ?_;rw[g];simp only[V.pure,↓IT,VV,seval];refine aw (x6 b i _) rfl ?_;rw[h];simp only[ag,V.pure,↓IT,VV,seval];have d:cn (J++[.box 24 q.awa]):=cC f (by simp[Qr.awa,LW]);have p:=(BH (xA m) (tR b q 0 m) []).length_eq;simp only[Qr.awa]at d;refine bZ.aK (fr':=(.sl 8 (m.map En.awa)::.sl 5 (b.map Pn.awa)::uu 3 (.ptr J.length 0::uu 4 (.sl 5 (([]:List Mt).map Mt.awa)::uu 15 (.I m.length::.I (([]:List En).length:Nat)::uu 51 []))))) (by repeat' constructor) (m.length+1) (aaA d (by simp) J.length m l b q (by simp[Qr.awa]) n m [] [] rfl (aD _) (λa o=>by cases o) ?_);rw[al];generalize (tR b q 0 m).foldl (wv (xA m)) []=out at p |-;simp only[JE];intros;simp only[ag,V.pure,↓IT,VV,seval];have c:=uG g
 have k:List.take (if q.gJ<(out.length:Int)then q.gJ else(out.length:Int)).toNat (out.map Mt.awa)=(out.take q.gJ.toNat).map Mt.awa:=by
  rw[eu];have:=c.2.2.1;split
  .rfl
  .rw[bW (by rw[ag];omega),bW (by rw[ag];omega)]
 rw[k];refine⟨⟨by have:=c.2.2.1;split<;>omega,by split<;>omega⟩,?_⟩;exact bg f (.inr rfl) (by simp only[RS,seval];rfl) (by simp[LW]) ⟨rfl,rfl⟩

set_option maxRecDepth 20000
set_option maxHeartbeats 4000000
def nbK(m:bH)(k:Nat):Ob:=.box 31 [.sl 1 (m.map bV),.I k]
def aaa{S:ak}{m:bH}{k:Nat}{T:ak}:S++(nbK m k::T)=gT (S++(.dead::T)) S.length m k:=by
 simp[gT,nbK]
def Yh{M:List dM}(h:oM M){c:List Pn}{q:Qr}{xs:List Mt}(g:xs.Perm (nG c q (dz q.awc) 0 M))(e:xs.Pairwise λx y=>¬kX (crF M) y x<0):xs=(tR c q 0 (M.map dM.en)).foldl (wv (xA (M.map dM.en))) []:=by
 have j:=vK c q (dz q.awc) M 0;have d:=BH (xA (M.map dM.en)) (tR c q 0 (M.map dM.en)) [];have f:((tR c q 0 (M.map dM.en)).foldl (wv (xA (M.map dM.en))) []).Pairwise λa b=>¬kX (xA (M.map dM.en)) b a<0:=G1 _ List.Pairwise.nil;rw[bL]at d;generalize (tR c q 0 (M.map dM.en)).foldl (wv (xA (M.map dM.en))) []=L at d f |-;rw[HY c q M 0 (λs e=>(h.ok s e).2.1)]at d;rw[OZ]at e;exact Fw j (g.trans d.symm) (λm i=>d.mem_iff.1 i) e f
def amE{J a:ak}{n0:Nat}{K:bl}(b:List En)(g1:∀o∈b,pL b.length o)(g2:b.length<=7)(M:List dM)(next:Int)(hF:CC J M next a)(r:oM M)(x:∀s∈M,s.en∈b)(ac:M.length<=7)(m:bH):∀(c i k:Nat) (T:ak),i+c=3->k<=10000*i ->
  (∀k' W,((fj 9 (fh (.ptr (J.length+4) 0) (fh (.sl 8 ((M.map dM.en).map En.awa)) (fj 112 fo)))) λZZ=>K (.exit 0) ⟨ZZ,a++(nbK m k'::W)⟩)) ->
  fm n0 prog adr K (c+1) ⟨(uu 8 (.sl 8 (b.map En.awa)::.ptr (J.length+4) 0::.sl 8 ((M.map dM.en).map En.awa)::uu 2 (.ptr a.length 0::.I i::uu 108 []))),a++(nbK m k::T)⟩:=by
 intro c
 induction c with
 |zero =>
  intro i k T X Z v;have P:i=3:=by omega
  subst P;refine ar λR E=>?_;simp only[adr,V.pure,↓IT,VV,seval];refine⟨λh=>by simp at h,λ_=>v k T ..⟩
 |succ c ih =>
  intro i k T X Z v;have Y:decide ((i:Int)<3)=true:=by simp;omega
  have N:IntKind.i64.wrap ((i:Int)+1)=((i+1:Nat):Int):=cm (by omega);refine sN λR E=>?_;simp only[adr];refine bZ.cut λO B=>?_;simp only[Y,V.pure,↓IT,VV,seval];refine B _ (bZ.fg (fr':=(uu 8 (.sl 8 (b.map En.awa)::.ptr (J.length+4) 0::.sl 8 ((M.map dM.en).map En.awa)::uu 2 (.ptr a.length 0::.I i::uu 108 [])))) ?_ (by repeat' constructor));clear B O;refine bZ.HC λR2 F=>bZ.lZ ?_;rw[aaa];refine bZ.cut λp j=>?_;simp only[V.pure,VV,seval];refine cD (zn _ a.length (by simp) m k (by omega) 3 (by decide)) rfl ?_;rintro _ _ ⟨f,S,rfl,w,A,p3,rfl⟩;simp only[V.pure,VV,seval];refine cD (AN _ a.length (by simp) m S (by omega) b g1 (by omega)) rfl ?_;rintro _ _ ⟨q,C,rfl,d,Q,rfl⟩;rw[<- aaa];obtain⟨n,l⟩:∃n:ak,n=nbK m C::T:=⟨_,rfl⟩;rw[<- l];simp only[Qr.awa,V.pure,VV,seval];have aa:q.awa=[.sl 3 (q.awc.map It.awa),.s q.bU,.s q.next,.I q.now,.I q.threshold,.I q.gJ]:=rfl;have D:∀e∈b,KQ e f q:=λz G=>OR (by omega) (g1 z G) w (by omega) d
  have H:=EK (hF.app (n++[.box 24 q.awa])) (by omega) f (by omega) q (by have:=d.prev;omega) (by have:=d.next;omega) (by have:=d.jr;omega) (by have:=d.ie;omega) (by have:=tx q.awc;have:=d.jr;have:=d.ie;omega)
   (λs g=>⟨by rw[(r.ok s g).2.1];exact(po (by omega) (g1 _ (x s g))).2,(D _ (x s g)).sc⟩)
  refine j _ (bZ.fg (fr':=(uu 8 (.sl 8 (b.map En.awa)::.ptr (J.length+4) 0::.sl 8 ((M.map dM.en).map En.awa)::uu 2 (.ptr a.length 0::.I i::.sl 5 (f.map Pn.awa)::.ptr (a.length+n.length) 0::uu 106 [])))) ?_ (by repeat' constructor));clear j p;refine bZ.cut λp j=>?_;simp only[V.pure,VV,seval];refine cD H (by simp only[Qr.awa,VV,seval]) ?_;rintro _ _ ⟨hr,rfl⟩;rcases hr with⟨h,_⟩|⟨_,h,_⟩|⟨_,_,xs,hp,u,rfl⟩
  .exact absurd d.ok h
  .exact absurd (yA w A) h
  rw[Yh r hp u];have t:=(BH (xA (M.map dM.en)) (tR f q 0 (M.map dM.en)) []).length_eq;rw[HY f q M 0 (λs g=>(r.ok s g).2.1)]at t;have ab:=yr f q (dz q.awc) M 0
  have y:=ZI (M.map dM.en) (by rw[ag];omega) f q (λe U=>by
   obtain⟨s,g,rfl⟩:=bF.1 U;exact D _ (x s g)) (by have:=d.prev;omega) (by have:=d.next;omega) d.ok (by omega) (yA w A)
  rw[HY f q M 0 (λs g=>(r.ok s g).2.1)]at y |-;generalize (nG f q (dz q.awc) 0 M).foldl (wv (xA (M.map dM.en))) []=L at t y |-;rw[bL]at t;simp only[V.pure,VV,seval];refine j _ (bZ.fg (fr':=(uu 8 (.sl 8 (b.map En.awa)::.ptr (J.length+4) 0::.sl 8 ((M.map dM.en).map En.awa)::uu 2 (.ptr a.length 0::.I i::.sl 5 (f.map Pn.awa)::.ptr (a.length+n.length) 0::.sl 5 ((L.take q.gJ.toNat).map Mt.awa)::.I 0::uu 104 [])))) ?_ (by repeat' constructor));clear j p;refine bZ.cut λp j=>?_;simp only[Qr.awa,V.pure,VV,seval];refine aw (y _) (by simp only[Qr.awa,VV,seval]) ?_;simp only[V.pure,VV,seval];refine j _ (bZ.fg (fr':=(uu 8 (.sl 8 (b.map En.awa)::.ptr (J.length+4) 0::.sl 8 ((M.map dM.en).map En.awa)::uu 2 (.ptr a.length 0::.I i::uu 2 (.sl 5 ((L.take q.gJ.toNat).map Mt.awa)::.I 0::.sl 5 ((L.take q.gJ.toNat).map Mt.awa)::.I 0::uu 102 []))))) (au ?_) (by repeat' constructor));clear j p;simp only[V.pure,↓IT,VV,seval];refine bB (c:=true) (by simp only[VV,seval]<;>rfl) (λ_=>IF (L.take q.gJ.toNat) (by rw[aP];omega) _) rfl ?_;simp only[V.pure,↓IT,VV,seval];have k:=ih (i+1) C (T++[.box 24 q.awa]) (by omega) (by omega) v;refine F _ (bZ.fg (fr':=(uu 8 (.sl 8 (b.map En.awa)::.ptr (J.length+4) 0::.sl 8 ((M.map dM.en).map En.awa)::uu 2 (.ptr a.length 0::.I i::uu 108 [])))) (au ?_) (by repeat' constructor));simp only[N,V.pure,VV,seval];rw[l];simp only[Qr.awa]at k;exact E _ (aK (by repeat' constructor) k)

set_option maxRecDepth 20000
set_option maxHeartbeats 4000000
def LA(l m:bH)(del:Int)(J:ak):bM prog 8 [.sl 1 (l.map bV),.sl 1 (m.map bV),.I del] J (.b true):=by
 refine aZ func8 p8.2 λbn dN=>?_;simp only[p8,SS,seval];refine bZ.cut λR a=>?_;simp only[VV,seval];refine a _ (bZ.fg (fr':=(.sl 1 (l.map bV)::.sl 1 (m.map bV)::.I del::uu 120 [])) ?_ (by repeat' constructor));clear a R;refine bZ.cut λR a=>?_;simp only[ag,V.pure,VV,seval];refine⟨λ_=>?_,λ_=>?_⟩
 .refine aw (qO _) rfl ?_;simp only[VV,seval];exact aO (.inr rfl) rfl ⟨rfl,rfl⟩
 refine a _ (bZ.fg (fr':=(.sl 1 (l.map bV)::.sl 1 (m.map bV)::.I del::uu 120 [])) ?_ (by repeat' constructor));clear a R;refine bZ.cut λR a=>?_;simp only[V.pure,VV,seval];refine a _ (bZ.fg (fr':=(uu 1 (.sl 1 (m.map bV)::.I del::uu 4 (.ptr J.length 0::uu 115 [])))) ?_ (by repeat' constructor));clear a R;rw[BA];refine bZ.cut λR a=>?_;simp only[V.pure,VV,seval];refine cD (vM _ J.length (by simp) l 0 (by decide) 7 (by decide)) rfl ?_;rintro _ _ ⟨i,k1,rfl,g1,g2,g3,rfl⟩;have T:gT (J++[.dead]) J.length l k1=J++[.box 31 [.sl 1 (l.map bV),.I k1]]:=by simp[gT]
 rw[T];generalize Ob.box 31 _=nb;simp only[V.pure,VV,seval];refine a _ (bZ.fg (fr':=(uu 1 (.sl 1 (m.map bV)::.I del::uu 5 (.sl 8 (i.map En.awa)::uu 114 [])))) ?_ (by repeat' constructor));clear a R;refine bZ.cut λR a=>?_;simp only[V.pure,VV,seval];refine cD (F7 i (by omega) (λe he=>po (by omega) (g1 e he)) _) rfl ?_;rintro _ S2 ⟨M,next,rfl,W,d,oo,aa⟩;simp only[V.pure,VV,seval];refine a _ (bZ.fg (fr':=(uu 1 (.sl 1 (m.map bV)::.I del::uu 5 (.sl 8 (i.map En.awa)::.ptr (J.length+1+4) 0::.sl 8 ((M.map dM.en).map En.awa)::.b true::uu 111 [])))) ?_ (by repeat' constructor));clear a R;have w:(J++[nb]).length=J.length+1:=by simp
 have U:M.length<=7:=by omega
 have E1:=G6 W d.len λs t=>(d.ok s t).2.2.2;rw[w]at E1;refine bZ.cut λR a=>?_;simp only[V.pure,↓IT,VV,seval];refine bB (c:=true) (by simp only[VV,seval]<;>rfl) (λ_=>E1) rfl ?_;simp only[V.pure,↓IT,VV,seval];refine bB (c:=true) (by simp only[VV,seval]<;>rfl) (λ_=>wG _ _ _) rfl ?_;have O:sE (M.map dM.en) (M.map dM.en)=true:=BM.2 rfl;simp only[O,V.pure,↓IT,VV,seval];refine a _ (bZ.fg (fr':=(uu 1 (.sl 1 (m.map bV)::.I del::uu 5 (.sl 8 (i.map En.awa)::.ptr (J.length+1+4) 0::.sl 8 ((M.map dM.en).map En.awa)::uu 112 [])))) ?_ (by repeat' constructor));clear a R;refine bZ.cut λR a=>?_;simp only[ag,V.pure,VV,seval]
 have k:∀(f:List dM) (B:ak) {X:aB},CC (J++[nb]) f next B->oM f->(∀s∈f,s.en∈i)->f.length<=7->oJ X (uu 1 (.sl 1 (m.map bV)::uu 6 (.sl 8 (i.map En.awa)::.ptr (J.length+1+4) 0::.sl 8 ((f.map dM.en).map En.awa)::uu 112 [])))->R ⟨X,B⟩:=by
  intro f B X r o q C hc;refine a _ (bZ.fg ?_ hc);clear a R;refine bZ.cut λR a=>?_;simp only[V.pure,VV,seval];refine a _ (bZ.fg (fr':=(uu 8 (.sl 8 (i.map En.awa)::.ptr (J.length+1+4) 0::.sl 8 ((f.map dM.en).map En.awa)::uu 2 (.ptr B.length 0::uu 109 [])))) (au ?_) (by repeat' constructor));clear a R;simp only[V.pure,VV,seval];have L:=λK=>amE (n0:=J.length) (K:=K) i g1 g2 f next r o q C m 3 0 0 [] rfl (by omega)
  rw[w]at L;refine bZ.aK (fr':=(uu 8 (.sl 8 (i.map En.awa)::.ptr (J.length+1+4) 0::.sl 8 ((f.map dM.en).map En.awa)::uu 2 (.ptr B.length 0::.I ((0:Nat):Int)::uu 108 [])))) (by repeat' constructor) (3+1) (L _ λk' T'=>?_);have Y:=r.app (nbK m k'::T');have E2:=G6 Y o.len λs t=>(o.ok s t).2.2.2;rw[w]at E2;have Q:sE (f.map dM.en) (f.map dM.en)=true:=BM.2 rfl;simp only[JE];intros;simp only[V.pure,VV,seval];refine aw E2 rfl ?_;simp only[V.pure,VV,seval];refine aw (wG _ _ _) rfl ?_;rw[Q];simp only[V.pure,↓IT,VV,seval];refine bB (c:=true) (by simp only[VV,seval]<;>rfl) (λ_=>qO _) rfl ?_;simp only[V.pure,↓IT,VV,seval];obtain⟨ab,e2⟩:=r.pre;rw[e2];simp only[bk];exact gq bn (by rfl) (by simp[LW])
 refine⟨λh=>?_,λ_=>k M S2 W d oo U (by repeat' constructor)⟩
 have wy:0<M.length:=by
  have:decide ((0:Int)<(M.length:Int))=true:=(Pe.1 h).1;simp at this;omega
 have hv:=tK (x:=del) (n:=M.length) (by omega);refine aw (AE del M.length (by omega) (by omega) _) rfl ?_;generalize place del M.length=v at hv |-;obtain⟨s,t⟩:∃s,M[v.toNat]?=some s:=⟨_,ax (by omega)⟩;have p:=bE t;have ft:((M.map dM.en).map En.awa).getD v.toNat []=s.en.awa:=by simp[aq,t]
 have Z:aN s.en=s.key:=(d.ok s p).1.symm;simp only[En.awa]at ft;simp only[ft,ag,V.pure,↓IT,VV,seval];refine⟨hv,?_⟩;refine aw (js s.en (d.ok s p).2.2.2 _) (by simp only[En.awa,VV,seval]) ?_;rw[Z];simp only[V.pure,↓IT,VV,seval];have E:s.key∈M.map dM.key:=gN p;obtain⟨x,N,z⟩:=(mJ d.s6 s.key).1 E;have G:=ly d s.key;have hD:=adg (M.map dM.en) d.mem d.awk s.key x.en (by rw[G,ck,N];rfl) (by rw[d.join (bE N),z]);rw[G,<- List.map_take,<- List.map_drop,<- List.map_append]at hD;refine aw (hD _) rfl ?_;simp only[V.pure,↓IT,VV,seval];have S:=Yl W d.s6 d.len s.key E;have g:=afr d (fN M s.key)
 have D:∀y∈M.take (fN M s.key)++M.drop (fN M s.key+1),y∈M:=λy F=>by
  rcases bP.1 F with h|h
  .exact cF h
  .exact cH h
 have A:s.key ∉ (M.take (fN M s.key)++M.drop (fN M s.key+1)).map dM.key:=λpj=>by
  obtain⟨y,F,H⟩:=bF.1 pj;rcases bP.1 F with h|h
  .have:=sL d.s6 s.key y h;rw[H,gi.self]at this;omega
  .obtain⟨j,P⟩:=ed.1 h;rw[db]at P;have pR:=(ah.1 P).1;have xc:=(ah.1 N).1;have:=l4.1 d.s6 (fN M s.key) (fN M s.key+1+j) (by rw[ag];omega) (by rw[ag];omega) (by omega);rw[nO,nO,(ah.1 N).2,(ah.1 P).2,z,H,gi.self]at this;omega
 have BG:(M.take (fN M s.key)++M.drop (fN M s.key+1)).length<=7:=by rw[aj,aP,bA];omega
 generalize M.take (fN M s.key)++M.drop (fN M s.key+1)=M1 at S g D A BG |-;rw[w]at S;refine cD S rfl ?_;rintro _ S3 ⟨rfl,u⟩;simp only[V.pure,↓IT,VV,seval];have D2:=Uo u g.s6 g.len s.key A;rw[w]at D2;refine bB (c:=true) (by simp only[VV,seval]<;>rfl) (λ_=>D2) rfl ?_;simp only[V.pure,↓IT,VV,seval];exact k M1 S3 u g (λy F=>oo y (D y F)) BG (by repeat' constructor)
end Go.Proofs.Tryz
