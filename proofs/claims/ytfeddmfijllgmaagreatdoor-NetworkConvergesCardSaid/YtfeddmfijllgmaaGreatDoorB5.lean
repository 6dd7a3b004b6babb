/- A part of a proof; the claim's last text says of what. -/
import Derived.Lib.AppendStr
import Derived.Test.YtfeddmfijllgmaaGreatDoorB4
set_option linter.all false
open Option renaming some->S,none->Z
open Bool renaming true->θ,false->G
open List renaming length->Y

namespace Go.Pm
open Go Go.RowKit
structure Src (P:bG) (w:bQ) (U:TypeId) (x:Value) (size m:Nat) (news:List Value):Prop where
 ty:∃d,P.underlying U=some d/\∀k,d≠.int k
 len:∀w':bQ,(Builtin.lenOf x).run P w'=.ok m w'
 first:(Builtin.firstCells size m x).run P w=.ok news.toArray w
 al9:(Builtin.firstCells size m x).run P w.drew=.ok news.toArray w.drew
 U6:news.length=m*size
 one:∀u∈news,u.oneCell'=true
section
variable {P:bG} {w:bQ} {T U ty E:TypeId} {t:TypeInfo} {z:Value} {x:Value} {m:Nat} {news:List Value}
theorem uB(e:P.underlying T=S (.slice E))(f:P.info? E=S t)(c:Src P w U x t.size 0 news)(a:Option Addr)(n b:Nat)(i:n<=b): (Builtin.append_ #[T,U] ty #[.slice a n b,x]).run P w=.ok (.slice a n b) w:=by
 obtain⟨d,g,k⟩:=c.ty;have j:news=[]:=cd (by simpa using c.U6);have h:=c.first;subst j;cases a with
 |none=>simp[Builtin.append_,run_underlying e,run_underlying g,sizeOf,typeInfo,f,c.len,i,h]
 |some a=>simp[Builtin.append_,run_underlying e,run_underlying g,sizeOf,typeInfo,f,c.len,i,h,storeCells]
theorem N7(f:P.underlying T=S (.slice E))(i:P.info? E=S t)(c:Src P w U x t.size m news)(g n b:Nat)(a:Array Value)(h:w.heap[g]?=S (.cells a E (0,0))) (l:n+m<=b) (o:n*t.size+Y news<=a.size) : (Builtin.append_ #[T,U] ty #[.slice (S ⟨g,0,Z⟩) n b,x]).run P w =
   .ok (.slice (S ⟨g,0,Z⟩) (n+m) b) (w.setRow g (a.toList.take (n*t.size)++news++a.toList.drop (n*t.size+Y news)).toArray):=by obtain⟨d,j,p⟩:=c.ty;have k:=c.first;have e:=run_storeCells_at P g (n*t.size) E news 0 a w h (by simpa using o) c.one;simp only[cu]at e;simp[Builtin.append_,run_underlying f,run_underlying j,sizeOf,typeInfo,i,c.len,l,k,Addr.add_lit,e]
theorem yv(p:P.underlying T=S (.slice E))(C:P.info? E=S t)(q:t.zero=S z)(k:Src P w U x t.size m news)(a:Option Addr)(n e:Nat)(c:List Value) (l:Y c=n*t.size) (B:(a=Z/\n=0)\/∃b,a=S b/\∀j v,c[j]?=S v->w.cell? (b.add j)=S v) (A:e<n+m) (i:n+m<=maxLen) (s:(n+m)*t.bytes<=140737488355328) : (Builtin.append_ #[T,U] ty #[.slice a n e,x]).run P w = .ok (.slice (S ⟨w.heap.size,0,Z⟩) (n+m) (grownCap w (n+m) e E)) (w.drew.alloc (.cells (c.toArray++news.toArray++Builtin.zeroCells z.cells (grownCap w (n+m) e E - (n+m))) E)):=by
 obtain⟨d,r,F⟩:=k.ty;have u:=k.al9;have D:¬(n+m<=e):=by omega
 have f:¬(9223372036854775807<((n:Int)+(m:Int))):=by unfold maxLen at i;omega
 have y:=growslice_fits A s;have g:¬(281474976710656<Builtin.nextslicecap (n+m) e*t.bytes):=by omega
 have h:(Builtin.firstCells t.size n (.slice a n e)).run P w.drew=.ok c.toArray w.drew:=by
  rcases B with⟨rfl,rfl⟩|⟨b,rfl,o⟩;.have:c=[]:=cd (by simpa using l);subst this;simp[Builtin.firstCells]
  exact run_firstCells_some (P:=P) w.drew t.size n b n e c l (by simpa using o)
 simp[Builtin.append_,run_underlying p,run_underlying r,sizeOf,typeInfo,zeroValue,C,q,k.len,D,f,g,Question.forced,u,h,newRow,grownCap];congr 2;apply Array.ext';simp[aO]
theorem zV(A:P.underlying T=S (.slice E))(C:P.info? E=S t)(O:t.zero=S z)(sj:z.cells.size=t.size)(p:Src P w U x t.size m news)(B:Nat)(v:Value)(n:Nat)(a:List Value) (o:w.ownsRow B E t.size v n a) (q:n+m<=maxLen) (N:(n+m)*t.bytes<=140737488355328) (hB:B<=w.heap.size) : ∃J D,(Builtin.append_ #[T,U] ty #[v,x]).run P w=.ok J D/\D.ownsRow B E t.size J (n+m) (a++news)/\w.grownBy D (nQ v) /\(∀b,nQ J=S b->nQ v=S b\/w.heap.size<=b)/\(∀b,nQ v=S b->∀j u,a[j]?=S u->D.cell? ⟨b,j,Z⟩=S u):=by
 have h:Y (a++news)=(n+m)*t.size:=by rw[ah,o.1,p.U6,dK]
 have grown:∀(f:Nat),f<n+m->∀(row:dE),(w.drew.alloc (.cells (a.toArray++news.toArray++Builtin.zeroCells z.cells (grownCap w (n+m) f E - (n+m))) E)).ownsRow B E t.size (.slice (S ⟨w.heap.size,0,Z⟩) (n+m) (grownCap w (n+m) f E)) (n+m) (a++news) /\w.grownBy (w.drew.alloc (.cells (a.toArray++news.toArray++Builtin.zeroCells z.cells (grownCap w (n+m) f E - (n+m))) E)) row:=by
  intro f ho row;have Vs:=grownCap_ge w (n+m) f E;have F:grownCap w (n+m) f E<=maxLen:=grownCap_le_maxLen w (n+m) f E q;refine⟨⟨h,.inr ⟨w.heap.size,_,_,rfl,hB,heap_alloc_new w.drew _,Vs,F,?_,?_⟩⟩,⟨rfl,rfl,rfl,by simp,λk H _=>heap_alloc_old w.drew _ k H⟩⟩;.simp only[kS,fI,size_zeroCells,sj,o.1,p.U6,<- Nat.add_mul];congr 1;omega
  simp only[BR,aO];rw[<- List.append_assoc,<- h];exact pZ
 by_cases hm:m=0
 .subst hm;have GC:news=[]:=cd (by simpa using p.U6);subst GC;have r:(Builtin.append_ #[T,U] ty #[v,x]).run P w=.ok v w:=by
   rcases o.2 with⟨rfl,rfl⟩|⟨g,c,i,rfl,_,_,R,_⟩;.exact uB A C p Z 0 0 (aM _)
   exact uB A C p _ n c R
  refine⟨v,w,r,by simpa using o,grownBy_refl w _,λb d=>.inl d,λb d j u y=>?_⟩;rcases o.2 with⟨rfl,rfl⟩|⟨g,c,i,rfl,_⟩;.simp[nQ]at d
  simp only[nQ,ab]at d;subst d;have:=o.cells (g:=g) rfl j u y;rwa [Addr.add_lit,aG]at this
 rcases o.2 with⟨rfl,rfl⟩|⟨g,c,i,rfl,L,I,R,F,X,Q⟩
 .have W:a=[]:=cd (by simpa using o.1);subst W;have r:=yv (ty:=ty) A C O p Z 0 0 [] (by simp) (.inl ⟨rfl,rfl⟩) (by omega) q N;have l:=grown 0 (by omega) (nQ (.slice Z 0 0));refine⟨_,_,r,l.1,l.2,λb d=>?_,λb d=>?_⟩;.simp only[nQ,ab]at d;exact .inr (by omega)
  simp[nQ]at d
 have holds:∀j u,a[j]?=S u->w.cell? ((⟨g,0,Z⟩:Addr).add j)=S u:=o.cells (g:=g) rfl;by_cases K:n+m<=c
 .have s:n*t.size+Y news<=i.size:=by rw[p.U6,X,<- Nat.add_mul];exact cg _ K
  have r:=N7 (ty:=ty) A C p g n c i I K s;refine⟨_,_,r,⟨h,.inr ⟨g,c,_,rfl,L,setRow_heap w g i _ E _ I,K,F,?_,?_⟩⟩,⟨rfl,rfl,rfl,by simp,λk _ H=>setRow_other w g k _ (λe=>H (by simp[nQ,e]))⟩,λb d=>.inl d,λb d j u y=>?_⟩;.simp only[fI,ah,bj,ca,bf];omega
  .rw[Q,<- h];exact pZ
  simp only[nQ,ab]at d;subst d;rw[cell_setRow_same w g j i _ E _ I];have V:j<Y a:=(ag.1 y).1;rw[Q];simp only[si];rw[aO,bg V,y]
 have r:=yv (ty:=ty) A C O p (S ⟨g,0,Z⟩) n c a o.1 (.inr ⟨_,rfl,holds⟩) (by omega) q N;have l:=grown c (by omega) (nQ (.slice (S ⟨g,0,Z⟩) n c));refine⟨_,_,r,l.1,l.2,λb d=>?_,λb d j u y=>?_⟩;.simp only[nQ,ab]at d;exact .inr (by omega)
 simp only[nQ,ab]at d;subst d;have M:=holds j u y;rw[Addr.add_lit,aG]at M;have eW:=World.block_lt_of_cell? w _ M;have:(w.drew.alloc (.cells (a.toArray++news.toArray++Builtin.zeroCells z.cells (grownCap w (n+m) c E - (n+m))) E)).cell? ⟨g,j,Z⟩=w.drew.cell? ⟨g,j,Z⟩ :=
  World.cell?_alloc_lt w.drew _ _ eW;rw[this,World.cell?_drew];exact M
theorem Rm(o:P.underlying T=S (.slice E))(F:P.info? E=S t)(p:t.zero=S z)(s:z.cells.size=t.size)(h:Src P w U x t.size m news)(B:Nat)(a:Option Addr)(n:Nat)(c:List Value) (i:Y c=n*t.size) (D:(a=Z/\n=0)\/∃b,a=S b/\∀j v,c[j]?=S v->w.cell? (b.add j)=S v) (H:0<m) (e:n+m<=maxLen) (u:(n+m)*t.bytes<=140737488355328) (C:B<=w.heap.size) : ∃g f,(Builtin.append_ #[T,U] ty #[.slice a n n,x]).run P w=.ok g f/\f.ownsRow B E t.size g (n+m) (c++news)/\w.grownBy f Z/\(∀b,nQ g=S b->w.heap.size<=b):=by
 have d:Y (c++news)=(n+m)*t.size:=by rw[ah,i,h.U6,dK]
 have A:=yv (ty:=ty) o F p h a n n c i D (by omega) e u;have r:=grownCap_ge w (n+m) n E;have q:grownCap w (n+m) n E<=maxLen:=grownCap_le_maxLen w (n+m) n E e;refine⟨_,_,A,⟨d,.inr ⟨w.heap.size,_,_,rfl,C,heap_alloc_new w.drew _,r,q,?_,?_⟩⟩,⟨rfl,rfl,rfl,by simp,λk y _=>heap_alloc_old w.drew _ k y⟩,λb l=>?_⟩;.simp only[kS,fI,size_zeroCells,s,i,h.U6,<- Nat.add_mul];congr 1;omega
 .simp only[BR,aO];rw[<- List.append_assoc,<- d];exact pZ
 simp only[nQ,ab]at l;omega
end
variable{X:Mem}{N:Nat}{R:aj}{K:bG}{Q M:bQ}{L:fx}
theorem NM.src(hS:l8 K N Q M R X){T E:TypeId}(m:K.underlying T=S (.slice E)){c:Nat}{v:Value}(h:NM M R X L c v): ∃news,Src K M T v c L.length news/\nD M R X L c news:=by
 have e:∃d,K.underlying T=S d/\∀k,d≠.int k:=⟨_,m,λk=>by simp⟩;rcases h.here with⟨rfl,f,rfl⟩|⟨b,n,s,rfl,q⟩
 .cases f with
  |none=>exact⟨[],⟨e,λ_=>by simp[Builtin.lenOf],by simp[Builtin.firstCells],by simp[Builtin.firstCells],by simp,by simp⟩,by simp,by simp[gv]⟩
  |some f=>exact⟨[],⟨e,λ_=>by simp[Builtin.lenOf],run_firstCells_some M c _ f _ _ [] (by simp) (by simp),run_firstCells_some M.drew c _ f _ _ [] (by simp) (by simp),by simp,by simp⟩,by simp,by simp[gv]⟩
 obtain⟨a,g,l,p,r⟩:=h.cells (λi j x o=>wD (q i j x o).1) hS;exact⟨a,⟨e,λ_=>by simp[Builtin.lenOf],run_firstCells_some M c _ _ _ _ a g l,run_firstCells_some M.drew c _ _ _ _ a g (by simpa using l),g,p⟩,r⟩
theorem Uh{P:bG}{w:bQ}{J:aj}{μ:Mem}{U:TypeId}(h:P.underlying U=S .string)(s:ByteArray): Src P w U (.string s) 1 (aN s.data.toList).length (Lib.strCells s)/\nD w J μ (aN s.data.toList) 1 (Lib.strCells s):=by
 have a:Y (aN s.data.toList)=s.size:=by rw[bsize];simp[aN]
 refine⟨⟨⟨_,h,λk=>by simp⟩,λ_=>?_,?_,?_,?_,Lib.strCells_oneCell s⟩,?_,?_⟩;.rw[a];simp[Builtin.lenOf]
 .rw[a];exact Lib.run_firstCells_string w 1 s
 .rw[a];exact Lib.run_firstCells_string w.drew 1 s
 .rw[a,Lib.strCells_length];simp
 .intro r e;simp only[aN,cv]at e;obtain⟨c,_,rfl⟩:=e;rfl
 intro i j x f;obtain⟨r,d,b⟩:=ln f;simp only[aN,bR,aL]at d;obtain⟨c,g,rfl⟩:=d;cases j with|zero =>simp only[aC,ab]at b;subst b;refine⟨rfl,.int .u8 c.toNat,?_,.i _ _⟩;simp[Lib.strCells,g]|succ j=>simp at b
theorem nD.append{g:fx}{f m:List Value}(h:nD Q R X L N f)(k:nD Q R X g N m)(q:Y f=Y L*N):nD Q R X (L++g) N (f++m):=by
 refine⟨λr a=>?_,λi j x p=>?_⟩
 .rcases bW.1 a with a|a;.exact h.1 r a
  exact k.1 r a
 obtain⟨r,c,n⟩:=ln p;by_cases o:i<Y L
 .rw[bg o]at c;have b:gv L i j=S x:=by rw[v7 c];exact n
  obtain⟨l,v,d,a⟩:=h.2 i j x b;exact⟨l,v,by rw[bg (ag.1 d).1];exact d,a⟩
 rw[bn (by omega)]at c;have b:gv g (i - Y L) j=S x:=by rw[v7 c];exact n
 obtain⟨l,v,d,a⟩:=k.2 _ j x b;refine⟨l,v,?_,a⟩;have e:i*N+j=Y f+((i - Y L)*N+j):=by
  rw[q];have:i*N=Y L*N+(i - Y L)*N:=by rw[<- Nat.add_mul];congr 1;omega
  omega
 rw[e,bn (by omega)];simpa using d
def EG(P:bG)(o:Oper)(a:Act)(B:Nat)(w0 w:bQ)(J:aj)(μ:Mem)(x:V)(d:aj):Prop :=∃v c b,((execOp a.eval o).run P w=.ok (.value v) c\/((execOp a.eval o).run P w=.ok .skip c/\x=.u))/\l8 P B w0 c d b/\VR c d b x v/\uo w J μ c d b
theorem uo.trans{y:aj}{j:Mem}{i:bQ}{k:aj}{c:Mem}(p:uo Q R X M y j)(q:uo M y j i k c):uo Q R X i k c:=by
 refine⟨λb o v f d=>?_,cE p.len q.len,λid T N h=>?_,λid K E L h=>?_,λid E x l D H I F h=>?_⟩;.obtain⟨a,g⟩:=p.cell b o v f d;exact q.cell b o v a g
 .obtain⟨⟨t,f⟩,d⟩:=p.box id T N h;obtain⟨a,g⟩:=q.box id T t f;exact⟨a,g.trans d⟩
 .obtain⟨⟨w,f⟩,d⟩:=p.map id K E L h;obtain⟨a,g⟩:=q.map id K E w f;exact⟨a,g.trans d⟩
 obtain⟨n,s,u,f,d,a⟩:=q.row id E x l D H I (im F p.len) h;obtain⟨A,r,m,g,J,C⟩:=p.row id E x l n s u F f;refine⟨A,r,m,g,cE J d,λe=>?_⟩;have z:n=D:=by omega
 have B:A=n:=by omega
 exact⟨(C B).1.trans (a z).1,(a z).2.trans (C B).2⟩
theorem XG(hS:l8 K N Q M R X)(T:Nat)(c:aB)(a:Array Value)(h:CR M R X c a): ∃b,l8 K N Q (M.alloc (.cells a T)) (R++[.box T c]) b/\VR (M.alloc (.cells a T)) (R++[.box T c]) b (.ptr R.length 0) (.pointer (S ⟨M.heap.size,0,Z⟩))/\uo M R X (M.alloc (.cells a T)) (R++[.box T c]) b:=by
 have d:=hS.Aw (w':=M.alloc (.cells a T)) (.box T c) (.pointer (S ⟨M.heap.size,0,Z⟩)) (World.grownBy_alloc M _ Z) (by simp[nQ]) (λg=>by
  refine⟨M.heap.size,a,rfl,hS.base,heap_alloc_new M _,h.1.symm,λj x e=>?_⟩;have f:j<a.size:=by rw[<- h.1];exact(ag.1 e).1
  exact⟨a[j],cq f,by have:=(h.2 j x e).mono g;simpa[f]using this⟩);exact⟨_,d.1,.ptr _ 0 _ ⟨T,c,by simp⟩ (iy _ _ _),d.2⟩
theorem yt{f:Type}(l b:List f)(a j:Nat)(h:a+Y b<=Y l):(l.take a++b++l.drop (a+Y b))[j]?=if a<=j/\j<a+Y b then b[j - a]? else l[j]?:=by
 have c:Y (l.take a)=a:=by simp;omega
 by_cases d:j<a;.rw[aw (by omega),aO,bg (by omega),cD d]
 by_cases g:j<a+Y b;.rw[aQ (by omega),bg (by rw[ah,c];omega),bn (by omega),c]
 have e:Y (l.take a++b)=a+Y b:=by rw[ah,c]
 rw[aw (by omega),bn (by omega),e,ei];congr 1;omega
section SB
variable {P:bG} {o:Oper} {a:Act} {B:Nat} {w0 w:bQ} {J:aj} {μ:Mem} {fr:aB} (hF:FR w J μ fr a) (hS:l8 P B w0 w J μ)
include hF hS
theorem arR{T:TypeId}{x:Operand}{c:O}(g:o.op=.box T x)(m:cO x=S c){d:Prop}{y:V}{e:aj}(h:eZ fr J (.box T c)=S (d,y,e))(k:d):EG P o a B w0 w J μ y e:=by simp only[eZ,ab,bm]at h;obtain⟨rfl,rfl,rfl⟩:=h;have j:=qk hS (ix hF m) k;obtain⟨b,i,l,f⟩:=XG hS T _ _ j.1;exact⟨_,_,b,.inl (by simp[execOp,g,Instr.box,newVar,newRow]),i,l,f⟩
theorem ais{T:TypeId}{t:TypeInfo}{z:Value}{zs:aB}(f:o.op=.alloc T)(g:P.info? T=S t)(d:t.zero=S z)(i:nC z.cells.toList=S zs){k:Prop}{y:V}{c:aj}(h:eZ fr J (.alloc T zs)=S (k,y,c)):EG P o a B w0 w J μ y c:=by simp only[eZ,ab,bm]at h;obtain⟨_,rfl,rfl⟩:=h;obtain⟨b,j,l,e⟩:=XG hS T _ _ (qJ (w:=w) (J:=J) (μ:=μ) i);exact⟨_,_,b,.inl (by simp[execOp,f,Instr.alloc,zeroValue,typeInfo,g,d,newVar,newRow]),j,l,e⟩
theorem aiq{T:TypeId}{t:TypeInfo}{ad x:Operand}{a0 U:O}{H:List (dE)}(ho:o.op=.store T ad x)(ht:P.info? T=S t)(ha:cO ad=S a0)(hx:cO x=S U){ob:Prop}{y:V}{J':aj}(h:eZ fr J (.store t.size H a0 U)=S (ob,y,J'))(iD:ob):EG P o a B w0 w J μ y J':=by
 have h1:=ix hF ha;have h2:=ix hF hx;have gQ:∀b c (l:Array Value) E,a.eval ad=.pointer (S ⟨b,c,Z⟩)->w.heap[b]?=S (.cells l E (0,0))->(a.eval x).cells.size=t.size->c+(a.eval x).cells.size<=l.size->(∀u∈(a.eval x).cells,u.oneCell'=θ) ->
   (execOp a.eval o).run P w=.ok .skip (w.setRow b (l.toList.take c++(a.eval x).cells.toList++l.toList.drop (c+(a.eval x).cells.size)).toArray):=by intro b c l E he I hs hf h1;have mq:=run_storeCells_at P b c E (a.eval x).cells.toList 0 l w I (by simpa using hf) (λv hv=>h1 v (by simpa using hv));simp only[cu,bf]at mq;simp[execOp,ho,he,Instr.storeAt,Instr.sureAddr,storeVar,sizeOf,typeInfo,ht,hs,mq]
 simp only[eZ]at h;split at h
 .rename_i id c hp;split at h
  .rename_i T' cs s;simp only[ab,bm]at h;obtain⟨rfl,rfl,rfl⟩:=h;obtain⟨iu,m,qE⟩:=iD;rw[hp]at h1;obtain⟨b,hm,hv,_⟩:=h1.yG;obtain⟨b',vs,af,hB,I,jl,M⟩:=hS.TI s;rw[hm]at af;simp only[Value.pointer.injEq,ab,Addr.mk.injEq,cK]at af;subst af;obtain⟨hC,LM⟩:=qk hS h2 iu;have A:(a.eval x).cells.size=t.size:=by rw[<- hC.1];exact m
   have hr:=gQ b c vs T' hv I A (by rw[A,jl];exact qE) LM;have eW:id<Y J:=(ag.1 s).1;generalize R:(vs.toList.take c++(a.eval x).cells.toList++vs.toList.drop (c+(a.eval x).cells.size)).toArray=arr at hr;have CY:=hS.update (w':=w.setRow b arr) (J':=J.set id (.box T' (cs.take c++jC (ev fr U)++cs.drop (c+t.size)))) (μ':=μ) id (S b)
    ⟨rfl,rfl,rfl,by simp,λk _ hk=>setRow_other w b k _ (λe=>hk (by simp[e]))⟩
    (λb2 N=>⟨_,s,by simp,by simp only[ab]at N;subst N;simp[hm,nQ]⟩)
    (by simp) (λj Q=>bN (λe=>Q e.symm)) (λ_ _=>rfl)
    (λb2 N=>.inl ⟨_,s,by simp,N⟩)
    (λb2 av v2 o2 d _ F _ n=>absurd ⟨id,o2,d,F,by rw[s]at d;simp only[ab]at d;subst d;trivial⟩ n)
    (λT2 a2 d=>by rw[s]at d;simp only[ab,Ob.box.injEq]at d;obtain⟨rfl,rfl⟩:=d;exact⟨⟨_,aT eW⟩,rfl⟩)
    (λK E es d=>by rw[s]at d;simp at d)
    (λE f am g' sh q _ d=>by simp[eW]at d)
    (λHn o2 d=>by
     simp only[aT eW,ab]at d;subst d;refine⟨b,arr,hm,hB,setRow_heap w b vs arr T' (0,0) I,?_,λj y L=>?_⟩;.rw[<- R];simp only[fI,ah,bj,ca,bf];rw[A,jl,m]
     have a4:CR w J μ cs vs:=⟨jl.symm,λi z hz=>by obtain⟨u,F,n⟩:=M i z hz;rw[sf I]at F;simpa[cZ,F]using n⟩;have yi:=a4.fill hC c (by rw[m];exact qE);rw[m]at yi;obtain⟨e1,e2⟩:=yi;have Q:j<arr.size:=by rw[<- R];have:=(ag.1 L).1;simp only[fI,ah,bj,ca,bf];simp only[ah,bj,ca]at this;rw[A,jl];rw[m]at this;exact this
     refine⟨arr[j],cq Q,?_⟩;by_cases ap:j<c
     .rw[aO,bg (by simp;omega),cD ap]at L;obtain⟨u,F,n⟩:=M j y L;rw[sf I]at F;have:arr[j]=u:=by
       have p:arr[j]?=S u:=by rw[<- R];simp only[si];rw[aO,bg (by simp;omega),cD ap];simpa using F
       rw[cq Q]at p;simpa using p
      rw[this];exact n.mono Hn
     by_cases a1:j<c+t.size
     .have GF:Y (cs.take c)=c:=by simp;omega
      rw[bg (by simp only[ah,GF,m];omega),bn (by omega),GF]at L;have n:=hC.2 _ y L;have BU:j - c<(a.eval x).cells.size:=by rw[A];omega
      have:arr[j]=(a.eval x).cells.getD (j - c) undef:=by
       have p:arr[j]?=S ((a.eval x).cells.getD (j - c) undef):=by
        rw[<- R];simp only[si];have EJ:Y (vs.toList.take c)=c:=by simp;omega
        rw[bg (by simp only[ah,EJ,bf];omega),bn (by omega),EJ];simp[BU]
       rw[cq Q]at p;simpa using p
      rw[this];exact n.mono Hn
     have GF:Y (cs.take c++jC (ev fr U))=c+t.size:=by rw[ah,m];simp;omega
     rw[bn (by omega),GF,ei]at L;have e3:c+t.size+(j - (c+t.size))=j:=by omega
     rw[e3]at L;obtain⟨u,F,n⟩:=M j y L;rw[sf I]at F;have:arr[j]=u:=by
      have p:arr[j]?=S u:=by
       rw[<- R];simp only[si];have EJ:Y (vs.toList.take c++(a.eval x).cells.toList)=c+t.size:=by simp[A];omega
       rw[bn (by omega),EJ,ei,A,e3];simpa using F
      rw[cq Q]at p;simpa using p
     rw[this];exact n.mono Hn);exact⟨undef,_,μ,.inr ⟨hr,rfl⟩,CY.1,.u _,CY.2⟩
  simp at h
 .rename_i id g i c hp;split at h
  .rename_i E f am g' sh q s;split at h
   .rename_i hg;obtain⟨rfl,rfl⟩:=hg;simp only[ab,bm]at h;obtain⟨rfl,rfl,rfl⟩:=h;obtain⟨iu,a6,m,qE,hi⟩:=iD;rw[hp]at h1;obtain⟨_,hv⟩:=h1.PU s;obtain⟨X4,a7,⟨Na,hw⟩,eG,aE⟩:=hS.obj id _ s;rcases hw with⟨_,hn⟩|⟨b,au,l,hm,hB,I,J7,CZ,M,J1⟩;.omega
    have a3:a.eval ad=.pointer (S ⟨b,i*f+c,Z⟩):=by rw[hv,hm];rfl
    obtain⟨aK,LM⟩:=qk hS h2 iu;have hC:=aK.fu H;have A:(a.eval x).cells.size=t.size:=by rw[<- aK.1];exact m
    have XX:Y (fu H (jC (ev fr U)))=t.size:=by rw[hC.1];exact A
    have bi:(i+1)*f<=Y q*f:=cg _ hi;have bc:Y q*f<=au*f:=cg _ J7;have bk:(i+1)*f=i*f+f:=by rw[dK,jL]
    have hr:=gQ b (i*f+c) l E a3 I A (by rw[A,M];omega) LM;have eW:id<Y J:=(ag.1 s).1;generalize R:(l.toList.take (i*f+c)++(a.eval x).cells.toList++l.toList.drop (i*f+c+(a.eval x).cells.size)).toArray=arr at hr;have an:q.getD i []=q[i]:=by simp[hi]
    have ac:q[i].length=f:=eG _ (eJ hi);have C2:∀j,arr.toList[j]?=if i*f+c<=j/\j<i*f+c+t.size then(a.eval x).cells.toList[j - (i*f+c)]? else l.toList[j]?:=by intro j;rw[<- R];have:=yt l.toList (a.eval x).cells.toList (i*f+c) j (by rw[bf,bf,A,M];omega);rw[bf,A]at this;rw[A];exact this
    have Ke:arr.size=l.size:=by rw[<- R];simp only[fI,ah,bj,ca,bf];rw[A,M];omega
    have CY:=hS.update (w':=w.setRow b arr) (J':=J.set id (.row E f am g false (q.set i ((q.getD i []).take c++fu H (jC (ev fr U))++(q.getD i []).drop (c+t.size))))) (μ':=μ) id (S b) ⟨rfl,rfl,rfl,by simp,λk _ hk=>setRow_other w b k _ (λe=>hk (by simp[e]))⟩ (λb2 N=>⟨_,s,by simp,by simp only[ab]at N;subst N;simp[hm,nQ]⟩) (by simp) (λj Q=>bN (λe=>Q e.symm)) (λ_ _=>rfl) (λb2 N=>.inl ⟨_,s,by simp,N⟩) (λb2 av v2 o2 d _ F _ n=>absurd ⟨id,o2,d,F,by rw[s]at d;simp only[ab]at d;subst d;intro hf;simp at hf⟩ n) (λT2 a2 d=>by rw[s]at d;simp at d) (λK E es d=>by rw[s]at d;simp at d) (λE2 a8 be g2 ba a9 _ d=>by
      simp only[aT eW,ab,Ob.row.injEq]at d;obtain⟨rfl,rfl,rfl,rfl,rfl,rfl⟩:=d;exact⟨g,false,q,s,aM _,λ_=>⟨by simp,rfl⟩⟩) (λHn o2 d=>by
      simp only[aT eW,ab]at d;subst d;refine⟨X4,arr.toList.take (Y q*f),⟨?_,.inr ⟨b,au,arr,by simpa using hm,hB,setRow_heap w b l arr E (0,0) I,by simpa using J7,CZ,by rw[Ke,M],by simp⟩⟩,?_,?_⟩;.simp only[bj,bf,Ke,M,fT];omega
      .intro r a5;rcases EH a5 with n|n;.exact eG r n
       rw[n,an];simp only[ah,bj,ca,ac,XX];omega
      intro D C y L;obtain⟨r,n,p⟩:=ln L;have GG:D<Y q:=by have:=(ag.1 n).1;simpa using this
      by_cases W:D=i
      .subst W;rw[aT hi]at n;simp only[ab]at n;subst n;rw[an]at p;have HS:=yt q[D] (fu H (jC (ev fr U))) c C (by rw[XX,ac];exact qE);rw[XX]at HS;rw[HS]at p;have a1:C<f:=by have:=(ag.1 (HS▸p:_)).1;simp only[ah,bj,ca,ac,XX]at this;omega
       have Ho:D*f+C<Y q*f:=by omega
       by_cases hc:c<=C/\C<c+t.size
       .rw[aQ hc]at p;refine⟨a6 y (aS p),(a.eval x).cells.getD (C - c) undef,?_,(hC.2 _ y p).mono Hn⟩;rw[cD Ho,C2,aQ (by omega)];have e1:D*f+C - (D*f+c)=C - c:=by omega
        have e2:C - c<(a.eval x).cells.size:=by rw[A];omega
        rw[e1];simp[e2]
       rw[aw hc]at p;have dz:gv q D C=S y:=by rw[v7 (aD hi)];exact p
       obtain⟨X,u,h7,h8⟩:=aE D C y dz;refine⟨X,u,?_,h8.mono Hn⟩;rw[cD Ho,C2,aw (by omega)];rw[<- J1,cD Ho]at h7;exact h7
      rw[bN (λe=>W e.symm)]at n;have dz:gv q D C=S y:=by rw[v7 n];exact p
      obtain⟨X,u,h7,h8⟩:=aE D C y dz;have a1:C<f:=by rw[<- eG r (aS n)];exact(ag.1 p).1
      have Ho:D*f+C<Y q*f:=by have:(D+1)*f<=Y q*f:=cg _ GG;rw[dK,jL]at this;omega
      refine⟨X,u,?_,h8.mono Hn⟩;rw[cD Ho,C2,aw ?_];.rw[<- J1,cD Ho]at h7;exact h7
      rintro⟨h9,QH⟩;rcases Nat.lt_or_gt_of_ne W with TZ|TZ;.have:(D+1)*f<=i*f:=cg _ TZ;rw[dK,jL]at this;omega
      have:(i+1)*f<=D*f:=cg _ TZ;rw[dK,jL]at this;omega);exact⟨undef,_,μ,.inr ⟨hr,rfl⟩,CY.1,.u _,CY.2⟩
   simp at h
  simp at h
 simp at h
end SB
theorem l8.grow{P:bG}{B:Nat}{w0 w:bQ}{J:aj}{μ:Mem}(hS:l8 P B w0 w J μ){id E a k g:Nat}{f sh':Bool}{i xs':fx}(d:J[id]?=S (.row E a k g f i)){l:bQ}{v':Value}{vals vals':List Value} (H:w.grownBy l (nQ (μ id))) (W:∀b,nQ v'=S b->nQ (μ id)=S b\/w.heap.size<=b) (A:∀b,nQ (μ id)=S b->∀j u,vals[j]?=S u->l.cell? ⟨b,j,Z⟩=S u) (Na:vals.length=i.length*a\/f=G) (m:f=θ->∀b,nQ (μ id)=S b->∀j u,w.cell? ⟨b,j,Z⟩=S u->j<i.length*a->vals[j]?=S u) (p:f=θ->sh'=θ/\i.length<=xs'.length) (O:l.ownsRow B E a v' xs'.length vals') (L:∀C n,uS w J μ l C n->nD l C n xs' a vals') : l8 P B w0 l (J.set id (.row E a k (g+1) sh' xs')) (Bh μ id v')/\uo w J μ l (J.set id (.row E a k (g+1) sh' xs')) (Bh μ id v'):=by
 have y:id<J.length:=(ag.1 d).1;refine hS.update id (nQ (μ id)) H (λb q=>⟨_,d,by simp,q⟩) (by simp) (λj v=>bN (λe=>v e.symm)) (λj v=>xw μ id v' j v) ?_ ?_ ?_ ?_ ?_ ?_
 .intro b q;rw[iy]at q;rcases W b q with h|h;.exact .inl ⟨_,d,by simp,h⟩
  exact .inr h
 .intro b c u o z _ x F V;rw[d]at z;simp only[ab]at z;subst z;have r:¬(f=θ->i.length*a<=c):=λr=>V ⟨id,_,d,x,r⟩;have t:f=θ:=by cases f with|true=>rfl|false=>exact absurd (λh=>by simp at h) r
  have U:c<i.length*a:=Nat.lt_of_not_le λh=>r λ_=>h;refine⟨A b x c u (m t b x c u F U),λo' D h6=>?_⟩;simp only[aT y,ab]at D;subst D;intro s;have X:=s (p t).1;have h8:i.length*a<=xs'.length*a:=cg _ (p t).2;omega
 .intro T cs h;rw[d]at h;simp at h
 .intro K E es h;rw[d]at h;simp at h
 .intro E2 M R g2 Q N _ h;simp only[aT y,ab,Ob.row.injEq]at h;obtain⟨rfl,rfl,rfl,rfl,rfl,rfl⟩:=h;exact⟨g,f,i,d,by omega,λe=>by omega⟩
 intro I o h;simp only[aT y,ab]at h;subst h;rw[iy];exact⟨(hS.obj id _ d).1,vals',O,L _ _ I.eY⟩
theorem VR.ue{w:bQ}{J:aj}{μ:Mem}{id E sz by' g:Nat}{sh:Bool}{xs:fx}(h:J[id]?=S (.row E sz by' g sh xs)):VR w J μ (.own id g) (μ id) := .own id g _ (ag.1 h).1 λf c e i d b a=>by rw[h]at a;simp only[ab,Ob.row.injEq]at a;obtain⟨rfl,rfl,rfl,rfl,rfl,rfl⟩:=a;exact⟨aM _,λ_=>rfl⟩
section SB
variable {P:bG} {o:Oper} {a:Act} {B:Nat} {w0 w:bQ} {J:aj} {μ:Mem} {fr:aB} (hS:l8 P B w0 w J μ)
include hS
theorem Yc{T U E:TypeId}{t:TypeInfo}{z:Value}{x y:Operand}{xV:V}{m:fx}{news:List Value}(ho:o.op=.call { callee:=.builtin .append,args:=#[x,y],argTypes:=#[T,U] }) (R:P.underlying T=S (.slice E)) (L:P.info? E=S t) (hz:t.zero=S z) (jl:0<t.size) (sj:z.cells.size=t.size) (H:VR w J μ xV (a.eval x)) (W:Src P w U (a.eval y) t.size m.length news) (D:nD w J μ m t.size news) {ob:Prop} {r:V} {J':aj} (h:EE E t.size t.bytes J xV m=S (ob,r,J')) (N:ob):EG P o a B w0 w J μ r J':=by
 have X4:Ti P E t.size t.bytes:=⟨jl,t,z,L,hz,rfl,rfl,sj⟩;have X:∀v w',(Builtin.append_ #[T,U] o.type #[a.eval x,a.eval y]).run P w=.ok v w'->(execOp a.eval o).run P w=.ok (.value v) w':=by intro v w' hr;simp only[execOp,ho,resolve,invoke,builtin,Sem.run_bind,Sem.run_pure,Result.andThen_ok,List.map_toArray,aI,ar,hr]
 unfold EE at h;split at h;.
  simp only[ab,bm]at h;obtain⟨rfl,rfl,rfl⟩:=h;have e:=H.pJ;obtain⟨v',w',q,p,A,s,K⟩:=zV (ty:=o.type) R L hz sj W B (.slice Z 0 0) 0 [] (World.ownsRow_nil w B E t.size) (by simpa using N.2) (by simpa using N.1) hS.base;simp only[aG,ay]at p;have C:=hS.Aw (w':=w') (.row E t.size t.bytes 0 G m) v' A (λb n=>by
   rcases s b n with h6|h6;.simp[nQ]at h6
   exact h6) (λhp=>⟨X4,news,p,D.eY hp.eY⟩);refine⟨v',w',_,.inl (X _ _ (by rw[e];exact q)),C.1,?_,C.2⟩;have:=VR.ue (w:=w') (J:=J++[.row E t.size t.bytes 0 G m]) (μ:=Bh μ J.length v') (id:=J.length) (E:=E) (sz:=t.size) (by':=t.bytes) (g:=0) (sh:=G) (xs:=m) (by simp);rwa [iy]at this
 .
  rename_i am xs;split at h
  .rename_i au;subst au;simp only[ab,bm]at h;obtain⟨rfl,rfl,rfl⟩:=h;by_cases Q:m=[]
   .subst Q;simp only[iZ,aU];rcases H.wN with⟨rfl,e⟩|⟨b,aE,f,e,_⟩;.exact⟨_,w,μ,.inl (X _ _ (by rw[e];exact uB R L W Z 0 0 (aM _))),hS,e▸H,uo.refl _ _ _⟩
    exact⟨_,w,μ,.inl (X _ _ (by rw[e];exact uB R L W _ _ _ (aM _))),hS,e▸H,uo.refl _ _ _⟩
   have jw:m.isEmpty=G:=by cases m<;>simp_all
   have P7:0<m.length:=fJ.2 Q;simp only[jw,aP,bw];have ap:=E6 hS H (sz:=t.size) (xs:=xs) (by simp[rowsOf]);have af:∃(ad:Option Addr) (d:List Value),a.eval x=.slice ad xs.length xs.length/\d.length=xs.length*t.size/\((ad=Z/\xs.length=0)\/∃b,ad=S b/\∀j v,d[j]?=S v->w.cell? (b.add j)=S v)/\nD w J μ xs t.size d:=by
    rcases H.wN with⟨rfl,e⟩|⟨b,aE,f,e,M,hr⟩;.exact⟨Z,[],e,by simp,.inl ⟨rfl,rfl⟩,by simp,by simp[gv]⟩
    rw[e]at ap;obtain⟨vals,q,p,A,s⟩:=ap.cells (λi j y Q=>wD (hr.2.1 i j y Q).2.2) hS;exact⟨_,vals,e,q,.inr ⟨_,rfl,p⟩,s⟩
   obtain⟨ad,d,e,uj,a1,a3⟩:=af;obtain⟨v',w',q,p,A,s⟩:=Rm (ty:=o.type) R L hz sj W B ad xs.length d uj a1 P7 N.2 N.1 hS.base;have C:=hS.Aw (w':=w') (.row E t.size t.bytes 0 G (xs++m)) v' A s (λhp=>⟨X4,d++news,by rw[ah];exact p,(a3.append D uj).eY hp.eY⟩);refine⟨v',w',_,.inl (X _ _ (by rw[e];exact q)),C.1,?_,C.2⟩;have:=VR.ue (w:=w') (J:=J++[.row E t.size t.bytes 0 G (xs++m)]) (μ:=Bh μ J.length v') (id:=J.length) (E:=E) (sz:=t.size) (by':=t.bytes) (g:=0) (sh:=G) (xs:=xs++m) (by simp);rwa [iy]at this
  simp at h
 .
  rename_i id g;split at h
  .rename_i E' am a0 g' sh xs n;split at h
   .rename_i hc;obtain⟨rfl,rfl,rfl,rfl⟩:=hc;simp only[ab,bm]at h;obtain⟨rfl,rfl,rfl⟩:=h;have e:=H.nv n;obtain⟨_,vals,I,eG⟩:=hS.obj id _ n;obtain⟨v',w',q,p,A,s,K⟩:=zV (ty:=o.type) R L hz sj W B (μ id) xs.length vals I N.2 N.1 hS.base;have eW:id<J.length:=(ag.1 n).1;have C:=hS.grow n (sh':=sh) (xs':=xs++m) (v':=v') (vals:=vals) (vals':=vals++news) A s K (.inl I.1) (λ_ b tt j u hc hj=>by
      have an:j<vals.length:=by rw[I.1];exact hj
      have:=I.cells (g:=b) (by
       have:(μ id).ownBlock=nQ (μ id):=by rcases I.2 with⟨M,_⟩|⟨g,F,ac,M,_⟩<;>rw[M]<;>rfl
       rw[this];exact tt) j vals[j] (aD an);rw[Addr.add_lit,aG,hc]at this;simp only[ab]at this;rw[aD an,this]) (λh=>⟨h,by simp⟩) (by rw[ah];exact p) (λJ' aK k=>(eG.append D I.1).eY k);refine⟨v',w',_,.inl (X _ _ (by rw[e];exact q)),C.1,?_,C.2⟩;have:=VR.ue (w:=w') (J:=J.set id (.row E t.size t.bytes (g+1) sh (xs++m))) (μ:=Bh μ id v') (id:=id) (E:=E) (sz:=t.size) (by':=t.bytes) (g:=g+1) (sh:=sh) (xs:=xs++m) (aT eW);rwa [iy]at this
   simp at h
  simp at h
 .
  rename_i id g lo l;split at h
  .rename_i E' am a0 g' sh xs n;split at h
   .rename_i hc;obtain⟨rfl,rfl,rfl,rfl,rfl,rfl⟩:=hc;simp only[ab,bm]at h;obtain⟨rfl,rfl,rfl⟩:=h;obtain⟨_,_,e⟩:=H.wM n;obtain⟨_,vals,I,eG⟩:=hS.obj id _ n;obtain⟨TX,X2,tt⟩:=N;have c:w.ownsRow B E t.size (a.eval x) l (vals.take (l*t.size))/\nQ (a.eval x)=nQ (μ id):=by
     have a2:l*t.size<=xs.length*t.size:=cg _ TX;rcases I with⟨Na,⟨M,C⟩|⟨b,F,ac,M,q,p,A,s,K,h6⟩⟩
     .have h0:l=0:=by omega
      subst h0;rw[e,M];exact⟨⟨by simp,.inl ⟨rfl,rfl⟩⟩,rfl⟩
     rw[e,M];have he:pS (.slice (S ⟨b,0,Z⟩) xs.length F) 0 l t.size=.slice (S ⟨b,0,Z⟩) l F:=by simp[pS,Addr.add_lit]
     rw[he];refine⟨⟨by simp only[bj,Na];omega,.inr ⟨b,F,ac,rfl,q,p,by omega,s,K,?_⟩⟩,rfl⟩;rw[<- h6,oK,fP a2]
    have O:nD w J μ (xs.take l) t.size (vals.take (l*t.size)):=by
     refine⟨λr hr=>eG.1 r (dY hr),λi j y Q=>?_⟩;have a5:gv (List.take (l - 0) (List.drop 0 xs)) i j=S y:=by simpa using Q
     have q:=H0 a5;rw[aG]at q;obtain⟨hp,u,p,A⟩:=eG.2 i j y q;refine⟨hp,u,?_,A⟩;obtain⟨r,s,K⟩:=ln Q;have a4:i<l:=by have:=(ag.1 s).1;simp at this;omega
     have hj:j<t.size:=by rw[<- eG.1 r (dY (aS s))];exact(ag.1 K).1
     have:(i+1)*t.size<=l*t.size:=cg _ a4;rw[dK,jL]at this;rw[cD (by omega)];exact p
    have av:(xs.take l).length=l:=by simp;omega
    obtain⟨v',w',q,p,A,s,K⟩:=zV (ty:=o.type) R L hz sj W B (a.eval x) l _ c.1 tt X2 hS.base;rw[c.2]at A;have eW:id<J.length:=(ag.1 n).1;have C:=hS.grow n (sh':=G) (xs':=xs.take l++m) (v':=v') (vals:=vals.take (l*t.size)) (vals':=vals.take (l*t.size)++news) A (λb n=>by rw[<- c.2];exact s b n) (λb n=>K b (by rw[c.2];exact n)) (.inr rfl) (λh=>by simp at h) (λh=>by simp at h) (by rw[ah,av];exact p) (λJ' aK k=>(O.append D (by rw[av];exact c.1.1)).eY k);refine⟨v',w',_,.inl (X _ _ q),C.1,?_,C.2⟩;have:=VR.ue (w:=w') (J:=J.set id (.row E t.size t.bytes (g+1) G (xs.take l++m))) (μ:=Bh μ id v') (id:=id) (E:=E) (sz:=t.size) (by':=t.bytes) (g:=g+1) (sh:=G) (xs:=xs.take l++m) (aT eW);rwa [iy]at this
   simp at h
  simp at h
 simp at h
variable (hF:FR w J μ fr a)
include hF
theorem arS{T E:TypeId}{t:TypeInfo}{z:Value}{x y:Operand}{d f:O}(m:o.op=.call { callee:=.builtin .append,args:=#[x,y],argTypes:=#[T,T] }) (b:P.underlying T=S (.slice E)) (n:P.info? E=S t) (g:t.zero=S z) (q:0<t.size) (i:z.cells.size=t.size) (l:cO x=S d) (u:cO y=S f) {e:Prop} {r:V} {c:aj} (h:eZ fr J (.app E t.size t.bytes d f)=S (e,r,c)) (p:e):EG P o a B w0 w J μ r c:=by
 simp only[eZ]at h;split at h;.rename_i v s;obtain⟨news,j,k⟩:=(E6 hS (ix hF u) s).src hS b;exact Yc hS m b n g q i (ix hF l) j k h p
 simp at h
theorem amd{T U E:TypeId}{t:TypeInfo}{z:Value}{x y:Operand}{e g:O}(u:o.op=.call { callee:=.builtin .append,args:=#[x,y],argTypes:=#[T,U] }) (j:P.underlying T=S (.slice E)) (F:P.underlying U=S .string) (v:P.info? E=S t) (i:t.zero=S z) (c:t.size=1) (b:t.bytes=1) (k:z.cells.size=t.size) (p:cO x=S e) (D:cO y=S g) {f:Prop} {r:V} {d:aj} (h:eZ fr J (.apps E e g)=S (f,r,d)) (A:f):EG P o a B w0 w J μ r d:=by
 simp only[eZ]at h;split at h;.rename_i l C;obtain⟨s,q,rfl,_⟩:=(C▸ix hF D).sG;obtain⟨m,n⟩:=Uh (P:=P) (w:=w) (J:=J) (μ:=μ) F s;refine Yc (news:=Lib.strCells s) hS u j v i (by omega) k (ix hF p) (by rw[q,c];exact m) (by rw[c];exact n) (by rw[c,b];exact h) A
 simp at h
theorem air{T K E:TypeId}(d:o.op=.makeMap T Z){e:Prop}{r:V}{b:aj}(h:eZ fr J (.JI K E)=S (e,r,b)):EG P o a B w0 w J μ r b:=by simp only[eZ,ab,bm]at h;obtain⟨_,rfl,rfl⟩:=h;have c:=hS.Aw (w':=w.alloc (.map #[] 0)) (.map K E []) (.map (S w.heap.size)) (World.grownBy_alloc w _ Z) (by simp[nQ]) (λf=>⟨w.heap.size,#[],0,rfl,hS.base,heap_alloc_new w _,by simp,by simp,by simp,by simp⟩);refine⟨_,_,_,.inl (by simp[execOp,d,Instr.makeMap];rfl),c.1,?_,c.2⟩;exact .mp _ _ ⟨K,E,[],by simp⟩ (iy _ _ _)
end SB
variable{X:Mem}{n:Nat}{k:V}{v:Value}{R:aj}{Q:bG}{N:bQ}
theorem ad7{zs:aB}{i j:Nat}(h:gv (List.replicate n zs) i j=S k):i<n/\zs[j]?=S k:=by
 obtain⟨r,a,c⟩:=ln h;have b:i<n:=by have:=(ag.1 a).1;simpa using this
 rw[HI,aQ b]at a;simp only[ab]at a;subst a;exact⟨b,c⟩
theorem yK(z:Array Value)(j:Nat)(h:j<z.size):z[j]! = z.getD j undef:=by simp[h]
theorem CR.Gm(a:List (dE)){xs:aB}{b:Array Value}(h:CR N R X xs b):VR N R X (.agg (Pm.fu a xs)) (.agg b):=(CR.fu a h).aa5
theorem tm{b:Nat}(h:uH Q n=S b): (b=0/\∃q,Q.underlying n=S (.int q))\/(b=1/\Q.underlying n=S .string)\/(b=3/\∃e q,Q.underlying n=S (.array 2 e)/\Q.underlying e=S (.int q)/\Q.cellsOf e=1):=by
 unfold uH at h;split at h;.rename_i q a;simp only[ab]at h;exact .inl ⟨h.symm,q,a⟩
 .rename_i a;simp only[ab]at h;exact .inr (.inl ⟨h.symm,a⟩)
 .rename_i e a;split at h
  .rename_i q c;split at h;.rename_i d;simp only[ab]at h;exact .inr (.inr ⟨h.symm,e,q,a,c,d⟩)
   simp at h
  simp at h
 simp at h
theorem Kr{P:bG}{w:bQ}{J:aj}{μ:Mem}{K:TypeId}{o:Nat}{d:TypeDesc}(A:P.underlying K=S d)(B:uH P K=S o)(g:o≠3){k:V}{p:Value}(u:VR w J μ k p): ∀(l:List (V×V)) (c:List MapEntry) (n:Nat) (r:Option (Nat×V)),Y c=Y l->(∀(i:Nat) (a x:V),l[i]?=S (a,x)->∃e:MapEntry,c[i]?=S e/\VR w J μ a e.key/\VR w J μ x e.val)->kL o k l n=S r ->(r=Z/\Instr.findNow d p c n=S Z)\/∃i x e a,r=S (n+i,x)/\l[i]?=S (a,x)/\c[i]?=S e/\eQ o k a=S θ/\Instr.findNow d p c n=S (S (n+i,e.val))
 |[],c,n,r,hl,_,h=>by have:c=[]:=cd hl;subst this;simp only[kL,ab]at h;subst h;exact .inl ⟨rfl,rfl⟩
 |(a,x)::l,c,n,r,hl,hr,h=>by
  cases c with
  |nil=>simp at hl
  |cons e c =>
  obtain⟨O,C,D,N⟩:=hr 0 a x rfl;simp only[aC,ab]at C;subst C;have z:∀b,eQ o k a=S b->Instr.sameNow d p e.key=S b:=by
   intro b f;rcases tm B with⟨rfl,q,j⟩|⟨rfl,j⟩|⟨rfl,_⟩;.rw[A]at j;simp only[ab]at j;subst j;cases k<;>(try (simp[eQ]at f;done));cases a<;>(try (simp[eQ]at f;done));simp only[eQ]at f;split at f<;>simp only[ab,reduceCtorEq]at f;rename_i M;subst M;rw[u.kK,D.kK];simp[Instr.sameNow,f]
   .rw[A]at j;simp only[ab]at j;subst j;cases k<;>(try (simp[eQ]at f;done));cases a<;>(try (simp[eQ]at f;done));simp only[eQ,ab]at f;obtain⟨s,rfl,rfl,_⟩:=u.sG;obtain⟨Q,t,rfl,_⟩:=D.sG;rw[t];simp only[Instr.sameNow,ab];rw[beq_toListBytes,toList_data,toList_data];exact f
   exact absurd rfl g
  simp only[kL]at h;split at h;.rename_i f;simp only[ab]at h;subst h;exact .inr ⟨0,x,e,a,rfl,rfl,rfl,f,by simp[Instr.findNow,z θ f]⟩
  .rename_i f;have ih:=Kr A B g u l c (n+1) r (by simpa using hl) (λi a x E=>by obtain⟨v,g,m⟩:=hr (i+1) a x E;exact⟨v,by simpa using g,m⟩) h;rcases ih with⟨g,m⟩|⟨i,y,v,I,g,m,H,L,F⟩;.exact .inl ⟨g,by simp[Instr.findNow,z false f,m]⟩
   exact .inr ⟨i+1,y,v,I,by rw[g];congr 2;omega,m,by simpa using H,L,by simp only[Instr.findNow,z false f,F];congr 3;omega⟩
  simp at h
theorem Gq{c e:aB}{r:Bool}(h:Oy c e=S r):∃k a l b f d,c=[.i k a,.i l b]/\e=[.i k f,.i l d]/\r=(a==f&&b==d):=by
 unfold Oy at h;split at h;.split at h<;>simp only[ab,reduceCtorEq]at h;rename_i g;obtain⟨rfl,rfl⟩:=g;exact⟨_,_,_,_,_,_,rfl,rfl,h.symm⟩
 simp at h
theorem Cz{P:bG}{w:bQ}{J:aj}{μ:Mem}{K e:TypeId}{q:IntKind}(v:P.underlying K=S (.array 2 e))(t:P.underlying e=S (.int q))(z:P.cellsOf e=1){k:V}{o:Value}(s:VR w J μ k o): ∀(g:List (V×V)) (c:List MapEntry) (n:Nat) (r:Option (Nat×V)),Y c=Y g->(∀(i:Nat) (a x:V),g[i]?=S (a,x)->∃e:MapEntry,c[i]?=S e/\VR w J μ a e.key/\VR w J μ x e.val)->kL 3 k g n=S r ->(r=Z/\(Instr.findAsking K o c n).run P w=.ok Z w)\/∃i x e a,r=S (n+i,x)/\g[i]?=S (a,x)/\c[i]?=S e/\eQ 3 k a=S θ/\(Instr.findAsking K o c n).run P w=.ok (S (n+i,e.val)) w
 |[],c,n,r,hl,_,h=>by have:c=[]:=cd hl;subst this;simp only[kL,ab]at h;subst h;exact .inl ⟨rfl,by simp[Instr.findAsking]⟩
 |(a,x)::g,c,n,r,hl,hr,h=>by
  cases c with
  |nil=>simp at hl
  |cons f c =>
  obtain⟨N,m,D,I⟩:=hr 0 a x rfl;simp only[aC,ab]at m;subst m;have p:∀b,eQ 3 k a=S b->(Op.equal K o f.key).run P w=.ok b w:=by intro b d;cases k<;>(try (simp[eQ]at d;done));cases a<;>(try (simp[eQ]at d;done));simp only[eQ]at d;obtain⟨H,F,O,M,u,L,rfl,rfl,rfl⟩:=Gq d;rw[s.pair,D.pair];exact B7 v t z _ _ _ _ _ _
  simp only[kL]at h;split at h;.rename_i d;simp only[ab]at h;subst h;exact .inr ⟨0,x,f,a,rfl,rfl,rfl,d,by simp[Instr.findAsking,p θ d]⟩
  .rename_i d;have ih:=Cz v t z s g c (n+1) r (by simpa using hl) (λi a x A=>by obtain⟨f,j,l⟩:=hr (i+1) a x A;exact⟨f,by simpa using j,l⟩) h;rcases ih with⟨j,l⟩|⟨i,y,f,u,j,l,C,E,B⟩;.exact .inl ⟨j,by simp[Instr.findAsking,p G d,l]⟩
   exact .inr ⟨i+1,y,f,u,by rw[j];congr 2;omega,l,by simpa using C,E,by simp only[Instr.findAsking,Sem.run_bind,p G d,Result.andThen_ok,aP,bw,B];congr 3;omega⟩
  simp at h
theorem yO{K:TypeId}(w:uH Q K=S n)(y:VR N R X k v) (l:List (V×V)) (c:List MapEntry) (r:Option (Nat×V)) (B:Y c=Y l) (z:∀(i:Nat) (a x:V),l[i]?=S (a,x)->∃e:MapEntry,c[i]?=S e/\VR N R X a e.key/\VR N R X x e.val) (h:kL n k l 0=S r) : (r=Z/\(Instr.findKey K v c).run Q N=.ok Z N)\/∃i x e a,r=S (i,x)/\l[i]?=S (a,x)/\c[i]?=S e/\eQ n k a=S θ/\(Instr.findKey K v c).run Q N=.ok (S (i,e.val)) N:=by
 by_cases A:n=3
 .subst A;rcases tm w with⟨h,_⟩|⟨h,_⟩|⟨_,e,q,s,C,D⟩;.omega
  .omega
  have j:=Cz s C D y l c 0 r B z h;have m:Instr.findNow (.array 2 e) v c 0=S Z/\c=[]\/Instr.findNow (.array 2 e) v c 0=Z:=by cases c with|nil=>exact .inl ⟨rfl,rfl⟩|cons a b=>exact .inr (by simp[Instr.findNow,Instr.sameNow])
  rcases m with⟨m,rfl⟩|m
  .rcases j with⟨f,g⟩|⟨i,x,e,a,_,_,p,_⟩;.exact .inl ⟨f,by simp[Instr.findKey,run_underlying s,m]⟩
   simp at p
  simp only[aG]at j;rcases j with⟨f,g⟩|⟨i,x,e,a,f,g,p,u,t⟩;.exact .inl ⟨f,by simp[Instr.findKey,run_underlying s,m,g]⟩
  exact .inr ⟨i,x,e,a,f,g,p,u,by simp[Instr.findKey,run_underlying s,m,t]⟩
 have o:∃d,Q.underlying K=S d:=by rcases tm w with⟨_,_,h⟩|⟨_,h⟩|⟨_,_,_,h,_⟩<;>exact⟨_,h⟩
 obtain⟨d,o⟩:=o;have j:=Kr o w A y l c 0 r B z h;simp only[aG]at j;rcases j with⟨f,g⟩|⟨i,x,e,a,f,g,p,u,t⟩;.exact .inl ⟨f,by simp[Instr.findKey,run_underlying o,g]⟩
 exact .inr ⟨i,x,e,a,f,g,p,u,by simp[Instr.findKey,run_underlying o,t]⟩
theorem run_checkKey{P:bG}{w:bQ}{K:TypeId}(C:uH P K=S n)(s:Bool)(b:Nat)(A:VR w R X k v)(g:xT n k=θ):(Instr.checkKey s (b+2) K v).run P w=.ok () w:=by
 rcases tm C with⟨_,_,h⟩|⟨_,h⟩|⟨rfl,e,q,h,l,I⟩;.simp[Instr.checkKey,run_underlying h]
 .simp[Instr.checkKey,run_underlying h]
 unfold xT at g;rw[aQ rfl]at g;split at g
 .rename_i d c m f;rw[A.pair];have o:∃i,P.info? e=S i:=by unfold Program.underlying at l;cases h:P.info? e with|none=>simp[h]at l|some i=>exact⟨i,rfl⟩
  obtain⟨i,o⟩:=o;have H:mo P e=S G:=by simp[mo,l]
  have r:∀(x y:Value) (j:Nat) (z:Value),#[x,y][j]?=S z->(part e #[x,y] j).run P w=.ok z w:=by intro x y j z t;simp only[part,Sem.run_bind,uV H,Result.andThen_ok,aP,bw,t];rfl
  have B:(sizeOf e).run P w=.ok 1 w:=by rw[run_sizeOf w o,I]
  have E:=r (.int d c) (.int m f) 0 (.int d c) rfl;have D:=r (.int d c) (.int m f) 1 (.int m f) rfl;have p:∀v:Value,(∃q a,v=.int q a)->(Instr.checkKey s (b+1) e v).run P w=.ok () w:=by rintro v ⟨_,_,rfl⟩;simp[Instr.checkKey,run_underlying l]
  have F:=p (.int d c) ⟨_,_,rfl⟩;have u:=p (.int m f) ⟨_,_,rfl⟩;rw[Instr.checkKey];simp only[Sem.run_bind,run_underlying h,Result.andThen_ok];simp only[Std.Legacy.Range.forIn_eq_forIn_range',Std.Legacy.Range.size,B3,Nat.add_one_sub_one,Nat.div_one,show List.range' 0 2=[0,1]from rfl,List.forIn_cons,List.forIn_nil];simp only[Sem.run_bind,B,Result.andThen_ok,QD,E,D,F,u,Sem.run_pure]
 simp at g
theorem aaU{w:bQ}{J:aj}{μ:Mem}{E:TypeId}{z:V}(h:zeroV Q E=S z):∃v,(zeroValue E).run Q w=.ok v w/\VR w J μ z v:=by
 unfold zeroV at h;split at h
 .rename_i t b;split at h;.rename_i cs a;simp only[aL]at h;obtain⟨zs,c,rfl⟩:=h;exact⟨_,by simp[zeroValue,typeInfo,b,a],(qJ (cs:=cs) c).Gm _⟩
  .rename_i d e a;exact⟨_,by simp[zeroValue,typeInfo,b,a],FD h⟩
  simp at h
 simp at h
section fD
variable {P:bG} {o:Oper} {a:Act} {B:Nat} {w0 w:bQ} {J:aj} {μ:Mem} {fr:aB} (hF:FR w J μ fr a) (hS:l8 P B w0 w J μ)
include hF hS
theorem ajz{T K E:TypeId}{x:Operand}{j:O}(k:o.op=.call { callee:=.builtin .len,args:=#[x],argTypes:=#[T] })(g:P.underlying T=S (.map K E))(m:cO x=S j) {t:Prop} {y:V} (h:ct fr J (.LD j)=S (t,y)):Yields P o a w J μ y:=by
 have d:=ix hF m;simp only[ct]at h;split at h;.rename_i f;simp only[ab,bm]at h;obtain⟨_,rfl⟩:=h;rw[f]at d;have e:a.eval x=.map Z:=d.JY;refine .pure (v:=.int .i64 0) ?_ (.i _ _);simp[execOp,k,resolve,invoke,builtin,e,Builtin.len_,run_underlying g,goInt]
 .rename_i id f;split at h
  .rename_i B z p l;simp only[ab,bm]at h;obtain⟨_,rfl⟩:=h;rw[f]at d;obtain⟨r,e,s,_⟩:=d.PV;obtain⟨A,c,clock,b,_,n,u⟩:=hS.obj id _ l;rw[s]at b;simp only[Value.map.injEq,ab]at b;subst b;refine .pure (v:=.int .i64 p.length) ?_ (.i _ _);have q:(getObj r).run P w=.ok (.map c clock) w:=by simp[getObj,Sem.run,n]
   simp[execOp,k,resolve,invoke,builtin,e,Builtin.len_,run_underlying g,goInt,q,u.1]
  simp at h
 simp at h
theorem ajC{T K E:TypeId}{m k:Operand}{L l:O}{D:Nat}{z:V}{ok:Bool}(ho:o.op=.lookup T m k ok)(R:P.underlying T=S (.map K E))(hm:cO m=S L)(hk:cO k=S l)(N:uH P K=S D)(hz:zeroV P E=S z) {ob:Prop} {y:V} (h:ct fr J (.look D z ok L l)=S (ob,y)) (iD:ob):Yields P o a w J μ y:=by
 have Q:=ix hF hm;have M:=ix hF hk;obtain⟨zv,t,ac⟩:=aaU (w:=w) (J:=J) (μ:=μ) hz;have B:xT D (ev fr l)=θ:=by simp only[ct]at h;split at h<;>simp only[ab,bm,reduceCtorEq]at h<;>(obtain⟨rfl,_⟩:=h;exact iD)
 have s:∀(u:V) (v:Value) (q:Bool),VR w J μ u v->(Instr.lookup T (a.eval m) (a.eval k) ok).run P w=.ok (if ok then .tuple #[v,.bool q]else v) w->Yields P o a w J μ (if ok then .jg [u,.b q]else u):=by
  intro u v q hu f;refine .pure (v:=if ok then .tuple #[v,.bool q]else v) (by simp[execOp,ho,f]) ?_;cases ok;.exact hu
  refine .jg _ _ rfl λi x p=>?_;match i with|0=>simp only[aC,ab]at p;subst p;exact hu|1=>simp only[bY,aC,ab]at p;subst p;exact .b _|i+2=>simp at p
 have ad:∀(r:Option (Option (Nat×V))),lH J D (ev fr L) (ev fr l)=r->∀q,r=S q ->(q=Z->(Instr.lookup T (a.eval m) (a.eval k) ok).run P w=.ok (if ok then .tuple #[zv,.bool G]else zv) w) /\
   (∀n u,q=S (n,u)->∃v,VR w J μ u v/\(Instr.lookup T (a.eval m) (a.eval k) ok).run P w=.ok (if ok then .tuple #[v,.bool θ]else v) w):=by
  intro r f q g;unfold lH at f;split at f
  .rename_i W;rw[W]at Q;have F:a.eval m=.map Z:=Q.JY;rw[<- f]at g;simp only[ab]at g;subst g;refine⟨λ_=>?_,λn u h=>by simp at h⟩;rw[F];have H:=run_checkKey (P:=P) (w:=w) N θ 9998 M B;have U:(Instr.findKey K (a.eval k) []).run P w=.ok Z w:=by
    rcases yO N M [] [] Z rfl (by simp) rfl with⟨_,h⟩|⟨_,_,_,_,h,_⟩;.exact h
    simp at h
   cases ok<;>simp[Instr.lookup,run_underlying R,H,U,t]
  .rename_i id W;rw[W]at Q;obtain⟨rr,F,yI,_⟩:=Q.PV;split at f
   .rename_i K' E' es hb;obtain⟨r',d,clock,j,_,hh,hR⟩:=hS.obj id _ hb;rw[yI]at j;simp only[Value.map.injEq,ab]at j;subst j;have hg:(getObj rr).run P w=.ok (.map d clock) w:=by simp[getObj,Sem.run,hh]
    rw[<- f]at g;have hf:=yO N M es d.toList q (by rw[bf];exact hR.1) (λi a x hi=>by obtain⟨_,_,e,c,C,A⟩:=hR.2.1 i a x hi;exact⟨e,by simpa using c,C,A⟩) g;have H:=run_checkKey (P:=P) (w:=w) N d.isEmpty 9998 M B;refine⟨λI=>?_,λn u I=>?_⟩
    .rcases hf with⟨_,c⟩|⟨i,x,e,a2,c,_⟩;.rw[F];cases ok<;>simp[Instr.lookup,run_underlying R,hg,H,c,t]
     rw[I]at c;simp at c
    rcases hf with⟨c,_⟩|⟨i,x,e,a2,c,C,A,_,X⟩;.rw[I]at c;simp at c
    rw[I]at c;simp only[ab,bm]at c;obtain⟨_,rfl⟩:=c;obtain⟨_,_,e2,h7,_,h8⟩:=hR.2.1 i a2 u C;have:e2=e:=by
     have h9:d[i]?=S e:=by simpa using A
     rw[h7]at h9;simpa using h9
    subst this;refine⟨e2.val,h8,?_⟩;rw[F];cases ok<;>simp[Instr.lookup,run_underlying R,hg,H,X]
   rw[<- f]at g;simp at g
  rw[<- f]at g;simp at g
 simp only[ct]at h;generalize f:lH J D (ev fr L) (ev fr l)=r at h;have g:=ad r f;cases r with
 |none=>simp at h
 |some q =>
 obtain⟨c,C⟩:=g q rfl;cases q with
 |none =>simp only[ab,bm]at h;obtain⟨_,rfl⟩:=h;exact s _ _ _ ac (c rfl)
 |some q =>obtain⟨n,u⟩:=q;simp only[ab,bm]at h;obtain⟨_,rfl⟩:=h;obtain⟨v,A,X⟩:=C n u rfl;exact s _ _ _ A X
end fD
section SB
variable {P:bG} {o:Oper} {a:Act} {B:Nat} {w0 w:bQ} {J:aj} {μ:Mem} {fr:aB} (hF:FR w J μ fr a) (hS:l8 P B w0 w J μ)
include hF hS
theorem avi{T E:TypeId}{t:TypeInfo}{z:Value}{l c:Operand}{l' c':O}{e:aB}{d:List (dE)}(ho:o.op=.makeSlice T l c)(hT:P.underlying T=S (.slice E))(F:P.info? E=S t)(R:t.zero=S z) (jl:0<t.size) (U:z.cells.size=t.size) (Vj:nC z.cells.toList=S e) (hl:cO l=S l') (hc:cO c=S c') {ob:Prop} {r:V} {J':aj} (h:eZ fr J (.mk E t.size t.bytes (fu d e) l' c')=S (ob,r,J')) (iD:ob):EG P o a B w0 w J μ r J':=by
 have X:=ix hF hl;have W:=ix hF hc;simp only[eZ]at h;split at h
 .rename_i k n k2 m hn hm;simp only[ab,bm]at h;obtain⟨rfl,rfl,rfl⟩:=h;obtain⟨Vp,D,ac,H,ad,af⟩:=iD;rw[hn]at X;rw[hm]at W;have X4:Ti P E t.size t.bytes:=⟨jl,t,z,F,R,rfl,rfl,U⟩;obtain⟨M,rfl⟩:=Int.eq_ofNat_of_zero_le ac;have u:CR w J μ (fu d e) z.cells:=(qJ Vj).fu d;have s:(fu d e).length=t.size:=by rw[u.1];exact U
  have tt:t.bytes*M<=281474976710656:=by
   have h3:((M*t.bytes:Nat):Int)<=281474976710656:=by rw[Int.natCast_mul];exact H
   rw[ju];exact aaK.1 h3
  have hM:M<=maxLen:=aaK.1 ad;have A:∀(v:Value) (w':bQ) (N:Nat) (f:List Value),(Instr.makeSlice T (a.eval l) (a.eval c)).run P w=.ok v w'->w'.ownsRow B E t.size v N f->w.grownBy w' Z->(∀b,nQ v=S b->w.heap.size<=b)->n.toNat=N ->
    nD w J μ (List.replicate N (fu d e)) t.size f->EG P o a B w0 w J μ (.own J.length 0) (J++[.row E t.size t.bytes 0 G (List.replicate n.toNat (fu d e))]):=by intro v w' N f p y q K hN eG;rw[hN];have oP:=hS.Aw (w':=w') (.row E t.size t.bytes 0 G (List.replicate N (fu d e))) v q K (λhp=>⟨X4,f,by rw[Mc];exact y,eG.eY hp.eY⟩);refine⟨v,w',_,.inl (by simp only[execOp,ho,Sem.run_bind,p,Result.andThen_ok,Sem.run_pure]),oP.1,?_,oP.2⟩;have:=VR.ue (w:=w') (J:=J++[.row E t.size t.bytes 0 G (List.replicate N (fu d e))]) (μ:=Bh μ J.length v) (id:=J.length) (E:=E) (sz:=t.size) (by':=t.bytes) (g:=0) (sh:=G) (xs:=List.replicate N (fu d e)) (by simp);rwa [iy]at this
  rcases D with rfl|rfl
  .obtain⟨w',p,y,q⟩:=run_make_full (P:=P) w B T E t z t.size hT F R rfl k k2 M tt hM hS.base;refine A _ w' M _ (by rw[X.kK,W.kK];exact p) y q (λb Q=>by simp only[nQ,ab]at Q;omega) (by simp) ⟨λr p=>by rw[List.eq_of_mem_replicate p];exact s,λi j x C=>?_⟩;obtain⟨hi,L⟩:=ad7 C;have tY:j<t.size:=by rw[<- s];exact(ag.1 L).1
   have Ho:i*t.size+j<M*t.size:=by have:(i+1)*t.size<=M*t.size:=cg _ hi;rw[dK,jL]at this;omega
   refine⟨af x (aS L),z.cells.getD j undef,?_,u.2 j x L⟩;have I:(i*t.size+j) % z.cells.size=j:=by rw[U,Nat.add_comm,Nat.add_mul_mod_self_right,jJ tY]
   simp only[madeCells,qd,We,bR,kP Ho,dV,I];rw[yK _ _ (by omega)]
  obtain⟨w',p,y,q⟩:=run_make_own (P:=P) w B T E t z t.size hT F R rfl k k2 M tt hM hS.base;exact A _ w' 0 _ (by rw[X.kK,W.kK];exact p) y q (λb Q=>by simp only[nQ,ab]at Q;omega) (by simp) ⟨by simp,λi j x C=>by simp[gv]at C⟩
 simp at h
theorem amc{T E:TypeId}{len:Nat}{parts:Array (Nat×Operand)}{t:TypeInfo}{z:Value}{xs:List O}{d:List (dE)}(ho:o.op=.buildSlice T len parts)(F:P.underlying T=S (.slice E))(s:P.info? E=S t)(n:t.zero=S z) (U:parts.size=len) (l:0<t.size) (p:z.cells.size=t.size) (L:len*t.size<=2^24) (H:A2 0 parts.toList=S xs) {v:Prop} {r:V} {A:aj} (h:eZ fr J (.VZ E t.size t.bytes d xs)=S (v,r,A)) (R:v):EG P o a B w0 w J μ r A:=by
 simp only[eZ,ab,bm]at h;obtain⟨rfl,rfl,rfl⟩:=h;obtain⟨iu,k⟩:=R;obtain⟨c,X,y,M,u⟩:=KR hF hS ho F s n U l p L H iu (λr f=>(k r f).1);generalize K:(xs.map λx=>fu d (jC (ev fr x)))=rows at k y u |-;have X4:Ti P E t.size t.bytes:=⟨l,t,z,s,n,rfl,rfl,p⟩;have N:w.grownBy (w.alloc (.cells c E)) none:=World.grownBy_alloc w _ none;have m:len<=maxLen:=by have:len<=len*t.size:=asR _ l;unfold maxLen;omega
 have Q:=World.ownsRow_lit (e:=E) w c len hS.base m M;have C:=hS.Aw (w':=w.alloc (.cells c E)) (.row E t.size t.bytes 0 G rows) (.slice (S ⟨w.heap.size,0,none⟩) len len) N (λb D=>by simp only[nQ,ab]at D;omega)
  (λW=>⟨X4,c.toList,by rw[y];exact Q,λr f=>(k r f).1,λi j x q=>by obtain⟨eW,I⟩:=u i j x q;obtain⟨r,f,hj⟩:=ln q;refine⟨(k r (aS f)).2 x (aS hj),_,?_,W.eY _ _ I⟩;simp[eW]⟩);refine⟨_,_,_,.inl X,C.1,?_,C.2⟩;have:=VR.ue (w:=w.alloc (.cells c E)) (J:=J++[.row E t.size t.bytes 0 G rows]) (μ:=Bh μ J.length (.slice (S ⟨w.heap.size,0,none⟩) len len)) (id:=J.length) (E:=E) (sz:=t.size) (by':=t.bytes) (g:=0) (sh:=G) (xs:=rows) (by simp);rwa [iy]at this
theorem VR.sameBits{k a:V}{g i:Value}{c:Nat}(d:VR w J μ k g)(e:VR w J μ a i)(h:eQ c k a=S θ):Instr.sameBits 10000 i g=θ:=by
 cases k<;>cases a<;>(try (simp[eQ]at h;done));.rw[d.xU,e.xU];match c with|2=>simp only[eQ,ab,ez]at h;subst h;simp[Instr.sameBits]|0=>simp[eQ]at h|1=>simp[eQ]at h|n+3=>simp[eQ]at h
 .rw[d.kK,e.kK];match c with|0 =>simp only[eQ]at h;split at h<;>simp only[ab,ez,reduceCtorEq]at h;rename_i m;subst m;subst h;simp[Instr.sameBits]|1=>simp[eQ]at h|2=>simp[eQ]at h|n+3=>simp[eQ]at h
 .obtain⟨s,rfl,l,_⟩:=d.sG;obtain⟨p,rfl,f,_⟩:=e.sG;match c with|1 =>simp only[eQ,ab,ez]at h;subst h;simp only[Instr.sameBits];rw[beq_toListBytes,toList_data,toList_data,l,f];simp|0=>simp[eQ]at h|2=>simp[eQ]at h|n+3=>simp[eQ]at h
 match c with
 |3 =>simp only[eQ]at h;obtain⟨q,o,r,u,v,t,rfl,rfl,j⟩:=Gq h;rw[d.pair,e.pair];have b:=j.symm;simp only[aZ,ez]at b;obtain⟨rfl,rfl⟩:=b;simp[Instr.sameBits]
 |0=>simp[eQ]at h
 |1=>simp[eQ]at h
 |2=>simp[eQ]at h
 |n+4=>simp[eQ]at h
theorem amb{T K E:TypeId}{m k x:Operand}{m' k' x':O}{kd:Nat}{I:List (dE)}(ho:o.op=.mapUpdate T m k x)(hT:P.underlying T=S (.map K E))(hm:cO m=S m')(hk:cO k=S k')(hx:cO x=S x')(Ft:uH P K=S kd) {ob:Prop} {r:V} {J':aj} (h:eZ fr J (.UZ kd I m' k' x')=S (ob,r,J')) (iD:ob):EG P o a B w0 w J μ r J':=by
 have h1:=ix hF hm;have W:=ix hF hk;have F:=ix hF hx;have av:xT kd (ev fr k')=θ:=by
  simp only[eZ]at h;split at h
  .split at h;.split at h<;>simp only[ab,bm,reduceCtorEq]at h<;>(obtain⟨rfl,_⟩:=h;exact iD.1)
   simp at h
  simp at h
 simp only[eZ]at h;generalize aE:rI I (ev fr x')=xv at h;have ac:VR w J μ xv (a.eval x):=by
  rw[<- aE];unfold rI;split;.rename_i xs hp;rw[hp]at F;obtain⟨vs,hv,hl,GA⟩:=F.wO;rw[hv];exact CR.Gm (xs:=xs) I ⟨hl,GA⟩
  exact F
 split at h
 .rename_i id hp;rw[hp]at h1;obtain⟨A,hv,yI,_⟩:=h1.PV;split at h
  .rename_i K' E' es hb;obtain⟨r',c,clock,R,hB,hh,p⟩:=hS.obj id _ hb;rw[yI]at R;simp only[Value.map.injEq,ab]at R;subst R;have eW:id<J.length:=(ag.1 hb).1;have J2:A<w.heap.size:=(cY.1 hh).1;have hg:∀(w2:bQ),w2.heap[A]?=S (.map c clock)->(getObj A).run P w2=.ok (.map c clock) w2:=λw2 h=>by simp[getObj,Sem.run,h]
   have Hq:=run_checkKey (P:=P) (w:=w) Ft G 9998 W av;have af:∀(C:List (V×V)) (f:Array MapEntry) (d:Nat),(execOp a.eval o).run P w=.ok .skip { w with heap:=w.heap.setIfInBounds A (.map f d) }->aeV w J μ C f d->EG P o a B w0 w J μ .u (J.set id (.map K' E' C)):=by
    intro C f d hr ap;have CY:=hS.update (w':={ w with heap:=w.heap.setIfInBounds A (.map f d) }) (J':=J.set id (.map K' E' C)) (μ':=μ) id (S A)
     ⟨rfl,rfl,rfl,by simp,λj _ hj=>by simp only[];rw[gP (λe=>hj (by rw[e]))]⟩
     (λb tt=>⟨_,hb,by simp,by simp only[ab]at tt;subst tt;simp[yI,nQ]⟩)
     (by simp) (λj hj=>bN (λe=>hj e.symm)) (λ_ _=>rfl)
     (λb tt=>.inl ⟨_,hb,by simp,tt⟩)
     (λb a6 v2 o2 g _ t h6 _=>by
      simp only[yI,nQ,ab]at t;subst t;simp[World.cell?,hh]at h6)
     (λT2 a0 g=>by rw[hb]at g;simp at g)
     (λK2 E2 a7 g=>by rw[hb]at g;simp only[ab,Ob.map.injEq]at g;obtain⟨rfl,rfl,rfl⟩:=g;exact⟨⟨_,aT eW⟩,rfl⟩)
     (λE2 aK a5 g2 a4 a1 _ g=>by simp[eW]at g)
     (λHn o2 g=>by simp only[aT eW,ab]at g;subst g;exact⟨A,f,d,yI,hB,by simp[J2],ap.eY Hn.eY⟩);exact⟨undef,_,μ,.inr ⟨hr,rfl⟩,CY.1,.u _,CY.2⟩
   have rj:∀L,(setObj A L).run P w=.ok () { w with heap:=w.heap.setIfInBounds A L }:=λL=>by simp[setObj,Sem.run,hh]
   split at h
   .rename_i hf;simp only[ab,bm]at h;obtain⟨rfl,rfl,rfl⟩:=h;have Ka:=yO Ft W es c.toList none (by rw[bf];exact p.1) (λi a x q=>by obtain⟨_,_,e,F,g,t⟩:=p.2.1 i a x q;exact⟨e,by simpa using F,g,t⟩) hf;have ad:(Instr.findKey K (a.eval k) c.toList).run P w=.ok none w:=by
     rcases Ka with⟨_,h⟩|⟨i,x,e,a2,h,_⟩;.exact h
     simp at h
    refine af _ (c.push { key:=a.eval k,val:=a.eval x,born:=clock }) (clock+1) ?_ ?_;.simp[execOp,ho,hv,Instr.mapUpdate,run_underlying hT,hg w hh,Hq,ad,rj]
    refine⟨by simp[p.1],λi a2 y q=>?_,λi e l=>?_,λi j e e' l n v=>?_⟩
    .by_cases pR:i<es.length;.rw[bg pR]at q;obtain⟨g,t,e,h6,h7⟩:=p.2.1 i a2 y q;exact⟨g,t,e,by rw[avm (by rw[p.1];exact pR)];have:=h6;rw[cq (by rw[p.1];exact pR)]at this;exact this,h7⟩
     have an:i=es.length:=by have:=(ag.1 q).1;simp at this;omega
     subst an;simp only[List.getElem?_concat_length,ab,bm]at q;obtain⟨rfl,rfl⟩:=q;exact⟨JS iD.1,iD.2,_,by rw[<- p.1];exact FO,W,ac⟩
    .rw[Array.getElem?_push]at l;split at l;.simp only[ab]at l;subst l;exact Nat.lt_succ_self _
     exact Nat.lt_succ_of_lt (p.2.2.1 i e l)
    rw[Array.getElem?_push]at l n;split at l
    .split at n;.omega
     simp only[ab]at l;subst l;have:=p.2.2.1 j e' n;simp only at v;omega
    split at n;.simp only[ab]at n;subst n;have:=p.2.2.1 i e l;simp only at v;omega
    exact p.2.2.2 i j e e' l n v
   .rename_i X x0 hf;simp only[ab,bm]at h;obtain⟨rfl,rfl,rfl⟩:=h;have Ka:=yO Ft W es c.toList _ (by rw[bf];exact p.1) (λi a x q=>by obtain⟨_,_,e,F,g,t⟩:=p.2.1 i a x q;exact⟨e,by simpa using F,g,t⟩) hf;rcases Ka with⟨g,_⟩|⟨i,y,e,a2,g,t,h6,h7,h8⟩;.simp at g
    simp only[ab,bm]at g;obtain⟨rfl,rfl⟩:=g;obtain⟨_,_,e2,h9,QH,_⟩:=p.2.1 X a2 x0 t;have au:e2=e:=by
     have:c[X]?=S e:=by simpa using h6
     rw[h9]at this;simpa using this
    subst au;have am:=VR.sameBits hF hS W QH h7;refine af _ (c.modify X λe=>{ e with key:=a.eval k,val:=a.eval x }) clock ?_ ?_;.simp[execOp,ho,hv,Instr.mapUpdate,run_underlying hT,hg w hh,Hq,h8,h9,Instr.keyThatStays,am,rj]
    have pR:X<es.length:=(ag.1 t).1;have Q:∀(i:Nat) (z:MapEntry),(c.modify X λe=>{ e with key:=a.eval k,val:=a.eval x })[i]?=S z->∃D,c[i]?=S D/\D.born=z.born:=by
     intro i z l;rw[fk]at l;split at l;.simp only[aL]at l;obtain⟨D,U,rfl⟩:=l;exact⟨D,U,rfl⟩
     exact⟨z,l,rfl⟩
    refine⟨by simp[p.1],λi a3 y q=>?_,λi z l=>?_,λi j z D l n v=>?_⟩
    .by_cases H:i=X;.subst H;rw[aT pR]at q;simp only[ab,bm]at q;obtain⟨rfl,rfl⟩:=q;exact⟨JS iD.1,iD.2,{ e2 with key:=a.eval k,val:=a.eval x },by rw[fk,aQ rfl,h9];rfl,W,ac⟩
     rw[bN (λe=>H e.symm)]at q;obtain⟨U,s,z,M,N⟩:=p.2.1 i a3 y q;exact⟨U,s,z,by rw[fk,aw (λe=>H e.symm)];exact M,N⟩
    .obtain⟨D,U,s⟩:=Q i z l;rw[<- s];exact p.2.2.1 i D U
    obtain⟨e5,U,s⟩:=Q i z l;obtain⟨e6,M,N⟩:=Q j D n;exact p.2.2.2 i j e5 e6 U M (by rw[s,N,v])
   simp at h
  simp at h
 simp at h
theorem arQ{T E:TypeId}{t:TypeInfo}{z:Value}{x:Operand}{x':O}{F:aB}{C:List (dE)}(ho:o.op=.call { callee:=.builtin .clear,args:=#[x],argTypes:=#[T] })(hT:P.underlying T=S (.slice E))(ht:P.info? E=S t)(hz:t.zero=S z) (jl:0<t.size) (sj:z.cells.size=t.size) (Vj:nC z.cells.toList=S F) (hx:cO x=S x') {ob:Prop} {r:V} {J':aj} (h:eZ fr J (.Ty t.size (fu C F) x')=S (ob,r,J')) (iD:ob):EG P o a B w0 w J μ r J':=by
 have h1:=ix hF hx;have D:CR w J μ (fu C F) z.cells:=(qJ Vj).fu C;generalize fu C F=zs at h D;have N:Y zs=t.size:=by rw[D.1];exact sj
 simp only[eZ]at h;split at h
 .rename_i id g c d hp;split at h
  .rename_i E' sz M g' sh i A;split at h
   .rename_i hg;obtain⟨rfl,rfl,rfl⟩:=hg;simp only[ab,bm]at h;obtain⟨rfl,rfl,rfl⟩:=h;rw[hp]at h1;obtain⟨be,TX,hv⟩:=h1.wM A;have eW:id<Y J:=(ag.1 A).1;obtain⟨X4,a2,⟨Na,hw⟩,eG,aK⟩:=hS.obj id _ A;have ac:VR w (J.set id (.row E' t.size M g G (i.take c++List.replicate (d - c) zs++i.drop d))) μ (.jg []) (.tuple #[]):=.jg _ _ rfl (by simp);by_cases h0:c=d
    .subst h0;have e1:J.set id (.row E' t.size M g G (i.take c++List.replicate (c - c) zs++i.drop c))=J:=by simp only[iP,List.replicate_zero,bI,fC];obtain⟨L,e⟩:=ag.1 A;rw[<- e];exact yl L
     have gQ:(execOp a.eval o).run P w=.ok (.value (.tuple #[])) w:=by
      have R:∃ad n,a.eval x=.slice ad 0 n:=by
       rw[hv];rcases hw with⟨Q,_⟩|⟨b,n,l,Q,_⟩;.rw[Q];exact⟨_,_,by simp only[pS,iP];rfl⟩
       rw[Q];exact⟨_,_,by simp only[pS,iP];rfl⟩
      obtain⟨ad,n,R⟩:=R;cases ad<;>simp[execOp,ho,resolve,invoke,builtin,R,Builtin.clear_,run_underlying hT]
     rw[e1]at ac |-;exact⟨_,w,μ,.inl gQ,hS,ac,uo.refl _ _ _⟩
    rcases hw with⟨_,hn⟩|⟨b,n,l,Q,hB,hh,J7,CZ,qF,J1⟩;.omega
    have jw:¬n=c:=by omega
    have am:a.eval x=.slice (S ⟨b,c*t.size,Z⟩) (d - c) (n - c):=by rw[hv,Q];simp[pS,jw,Addr.add_lit]
    obtain⟨m,ap⟩:∃m,d - c=m+1:=⟨d - c - 1,by omega⟩;generalize bc:(Builtin.zeroCells z.cells (d - c)).toList=cl;have W:Y cl=(d - c)*t.size:=by rw[<- bc];simp[Builtin.zeroCells,sj]
    have an:∀q,q<(d - c)*t.size->cl[q]?=S (z.cells.getD (q % t.size) undef):=by
     intro q L;rw[<- bc];have av:q % t.size<z.cells.size:=by rw[sj];exact wg _ jl
     simp only[Builtin.zeroCells,qd,We,bR,sj,kP L,dV];rw[yK _ _ av]
    have H:c*t.size+(d - c)*t.size=d*t.size:=by rw[<- Nat.add_mul];congr 1;omega
    have ba:d*t.size<=Y i*t.size:=cg _ TX;have a8:Y i*t.size<=n*t.size:=cg _ J7;have LM:∀v∈cl,v.oneCell'=θ:=by
     intro v aE;obtain⟨q,L⟩:=cm.1 aE;have a0:q<(d - c)*t.size:=by rw[<- W];exact(ag.1 L).1
     rw[an q a0]at L;simp only[ab]at L;subst L;have hj:q % t.size<Y zs:=by rw[N];exact wg _ jl
     have:=D.2 (q % t.size) zs[q % t.size] (aD hj);exact(vX hS this (wD (iD _ (eJ hj)))).1
    have mq:=run_storeCells_at P b (c*t.size) E' cl 0 l w hh (by rw[W,qF];omega) LM;generalize oP:(l.toList.take (c*t.size+0)++cl++l.toList.drop (c*t.size+0+Y cl)).toArray=arr at mq;have gQ:(execOp a.eval o).run P w=.ok (.value (.tuple #[])) (w.setRow b arr):=by rw[ap]at bc am;simp[execOp,ho,resolve,invoke,builtin,am,Builtin.clear_,run_underlying hT,zeroValue,typeInfo,ht,hz,bc,mq]
    have C2:∀j,arr.toList[j]?=if c*t.size<=j/\j<d*t.size then cl[j - c*t.size]? else l.toList[j]?:=by intro j;rw[<- oP];have:=yt l.toList cl (c*t.size) j (by rw[W,bf,qF];omega);rw[W,H]at this;simpa[W,H]using this
    have Ke:arr.size=l.size:=by rw[<- oP];simp only[fI,ah,bj,ca,bf,W,qF,cu];omega
    have X:Y (i.take c++List.replicate (d - c) zs++i.drop d)=Y i:=by simp;omega
    have CY:=hS.update (w':=w.setRow b arr) (J':=J.set id (.row E' t.size M g G (i.take c++List.replicate (d - c) zs++i.drop d))) (μ':=μ) id (S b) ⟨rfl,rfl,rfl,by simp,λk _ hk=>setRow_other w b k _ (λe=>hk (by simp[e]))⟩ (λb2 tt=>⟨_,A,by simp,by simp only[ab]at tt;subst tt;simp[Q,nQ]⟩) (by simp) (λj hj=>bN (λe=>hj e.symm)) (λ_ _=>rfl) (λb2 tt=>.inl ⟨_,A,by simp,tt⟩) (λb2 a3 v2 o2 s _ h4 _ f=>absurd ⟨id,o2,s,h4,by rw[A]at s;simp only[ab]at s;subst s;intro hf;simp at hf⟩ f) (λT2 a5 s=>by rw[A]at s;simp at s) (λK E es s=>by rw[A]at s;simp at s) (λE2 a4 a9 g2 a7 a6 _ s=>by
      simp only[aT eW,ab,Ob.row.injEq]at s;obtain⟨rfl,rfl,rfl,rfl,rfl,rfl⟩:=s;exact⟨g,G,i,A,aM _,λ_=>⟨X.symm,rfl⟩⟩) (λHn o2 s=>by
      simp only[aT eW,ab]at s;subst s;refine⟨X4,arr.toList.take (Y i*t.size),⟨?_,.inr ⟨b,n,arr,by rw[X];exact Q,hB,setRow_heap w b l arr E' (0,0) hh,by rw[X];exact J7,CZ,by rw[Ke,qF],by rw[X]⟩⟩,?_,?_⟩;.rw[X];simp only[bj,bf,Ke,qF];omega
      .intro r af;simp only[bW,List.mem_replicate]at af;rcases af with(f|⟨_,rfl⟩)|f;.exact eG r (dY f)
       .exact N
       exact eG r (eO f)
      intro p I y hy;obtain⟨r,f,h6⟩:=ln hy;have GG:p<Y i:=by have:=(ag.1 f).1;rw[X]at this;exact this
      have HS:=yt i (List.replicate (d - c) zs) c p (by rw[Mc];omega);rw[Mc,show c+(d - c)=d by omega]at HS;rw[HS]at f;have J2:Y r=t.size:=by
       by_cases U:c<=p/\p<d;.rw[aQ U,HI,aQ (by omega)]at f;simp only[ab]at f;rw[<- f];exact N
       rw[aw U]at f;exact eG r (aS f)
      have a1:I<t.size:=by rw[<- J2];exact(ag.1 h6).1
      have Ho:p*t.size+I<Y i*t.size:=by have:(p+1)*t.size<=Y i*t.size:=cg _ GG;rw[dK,jL]at this;omega
      by_cases U:c<=p/\p<d
      .rw[aQ U,HI,aQ (by omega)]at f;simp only[ab]at f;subst f;have Vs:c*t.size<=p*t.size:=cg _ U.1;have BU:(p+1)*t.size<=d*t.size:=cg _ U.2;rw[dK,jL]at BU;refine⟨iD y (aS h6),z.cells.getD I undef,?_,(D.2 I y h6).mono Hn⟩;rw[cD Ho,C2,aQ (by omega),an _ (by omega)];have e2:p*t.size+I - c*t.size=I+t.size*(p - c):=by rw[ju t.size,zB];omega
       rw[e2,Nat.add_mul_mod_self_left,jJ a1]
      rw[aw U]at f;have dz:gv i p I=S y:=by rw[v7 f];exact h6
      obtain⟨au,u,h7,h8⟩:=aK p I y dz;refine⟨au,u,?_,h8.mono Hn⟩;rw[cD Ho,C2,aw ?_];.rw[<- J1,cD Ho]at h7;exact h7
      rintro⟨h9,QH⟩;rcases jP p c with TZ|TZ;.have:(p+1)*t.size<=c*t.size:=cg _ TZ;rw[dK,jL]at this;omega
      have:d*t.size<=p*t.size:=cg _ (by omega);omega);exact⟨_,_,μ,.inl gQ,CY.1,.jg _ _ rfl (by simp),CY.2⟩
   simp at h
  simp at h
 simp at h
end SB
theorem SM{P:bG}{T:TypeId}{t:TypeInfo}{q:Bool}(h:mo P T=S q):(((if q then S t.size else Z):dE)=Z/\mo P T=S G)\/(((if q then S t.size else Z):dE)=S t.size/\mo P T=S θ):=by
 cases q;.exact .inl ⟨rfl,h⟩
 exact .inr ⟨rfl,h⟩
section
variable {P:bG} {o:Oper} {i:I} {a:Act} {B:Nat} {w0 w:bQ} {J:aj} {μ:Mem} {fr:aB}
theorem QA{w:bQ}{J:aj}{μ:Mem}{fr:aB}{a:Act}(h:FR w J μ fr a):∀(c:List Operand) (b:List O),cOs c=S b->Y b=Y c/\∀(i:Nat) (y:V),(b.map (ev fr))[i]?=S y->VR w J μ y ((c.map a.eval).getD i undef)
 |[],b,hc=>by simp only[cOs,ab]at hc;subst hc;simp
 |x::c,b,hc=>by simp only[cOs]at hc;split at hc<;>simp only[ab,reduceCtorEq]at hc;rename_i y zs j e;subst hc;obtain⟨f,g⟩:=QA h c zs e;refine⟨by simp[f],λi z d=>?_⟩;cases i with|zero =>simp only[aI,aC,ab]at d;subst d;simpa using ix h j|succ i=>simpa using g i z (by simpa using d)
theorem amW{f:Nat}{first b:Array Operand}{c:List O}(hF:FR w J μ fr a)(d:o.op=.makeFunc (.func f) first b)(h0:first.size=0)(k:cOs b.toList=S c):Yields P o a w J μ (.fn f (c.map (ev fr))):=by
 obtain⟨e,h⟩:=QA hF _ _ k;have g:first=#[]:=zd h0;subst g;refine .pure (v:=.func (.func f) #[] (b.map a.eval)) ?_ (.fn f _ _ (by simp[e]) λi x j=>?_);.simp[execOp,d,Instr.makeFunc]
 have:=h i x j;simpa[aA]using this
theorem Sd(b:compile P o=S i)(hF:FR w J μ fr a)(hS:l8 P B w0 w J μ){ob:Prop}{y:V}(h:ct fr J i=S (ob,y))(D:ob):Yields P o a w J μ y:=by
 cases g:o.op with
 |move x =>simp only[compile,g,aL]at b;obtain⟨u,j,rfl⟩:=b;simp only[ct,ab,bm]at h;obtain⟨_,rfl⟩:=h;exact aiP hF (.inl g) j
 |assign x =>simp only[compile,g,aL]at b;obtain⟨u,j,rfl⟩:=b;simp only[ct,ab,bm]at h;obtain⟨_,rfl⟩:=h;exact aiP hF (.inr g) j
 |pick c x z =>simp only[compile,g]at b;split at b<;>simp only[ab,reduceCtorEq]at b;rename_i c' u X af j v;subst b;simp only[ct]at h;split at h<;>simp only[ab,bm,reduceCtorEq]at h;rename_i p L;obtain⟨_,rfl⟩:=h;exact ajy hF g af j v L
 |box T x =>simp only[compile,g,aL]at b;obtain⟨u,j,rfl⟩:=b;simp[ct]at h
 |alloc T =>simp only[compile,g]at b;split at b<;>(try simp only[reduceCtorEq]at b);split at b<;>(try simp only[reduceCtorEq]at b);simp only[aL]at b;obtain⟨zs,_,rfl⟩:=b;simp[ct]at h
 |build T parts =>
  simp only[compile,g]at b;split at b<;>(try simp only[reduceCtorEq]at b);.rename_i t fs C hu;split at b<;>(try simp only[reduceCtorEq]at b);rename_i z v;split at b<;>(try simp only[reduceCtorEq]at b);rename_i zs places sj Fs;simp only[aL]at b;obtain⟨ps,I,rfl⟩:=b;exact afl hF hS g C hu v sj Fs I h D
  rename_i t n E C hu;split at b<;>(try simp only[reduceCtorEq]at b);rename_i z te v ac;split at b<;>(try simp only[reduceCtorEq]at b);rename_i zs sj;simp only[aL]at b;obtain⟨ps,I,rfl⟩:=b;exact aaX hF hS g C hu v ac sj I h D
 |buildSlice T len parts =>
  simp only[compile,g]at b;split at b<;>(try simp only[reduceCtorEq]at b);rename_i E q;split at b<;>(try simp only[reduceCtorEq]at b);rename_i t C;split at b<;>(try simp only[reduceCtorEq]at b);rename_i z v;split at b<;>(try simp only[reduceCtorEq]at b);rename_i H;simp only[aL]at b;obtain⟨xs,I,rfl⟩:=b;split at h;.simp[ct]at h
  exact aaY hF hS g q C v H.1 H.2.1 H.2.2.1 H.2.2.2 I h D
 |load T x =>
  simp only[compile,g]at b;split at b<;>simp only[ab,reduceCtorEq]at b;.rename_i u t j hA C;subst b;exact aaW hF hS g j C (.inr ⟨rfl,hA⟩) h D
  rename_i u t j hA C;subst b;exact aaW hF hS g j C (.inl ⟨rfl,hA⟩) h D
 |store T x z =>simp only[compile,g]at b;split at b<;>simp only[ab,reduceCtorEq]at b;subst b;simp[ct]at h
 |nilCheck x =>simp only[compile,g,aL]at b;obtain⟨u,j,rfl⟩:=b;exact afk hF hS g j h
 |binOp op T x z yT =>
  simp only[compile,g]at b;split at b<;>(try simp only[reduceCtorEq]at b);rename_i u X j v;split at b
  .rename_i hq;split at b;.simp only[ab]at b;subst b;exact aiQ hF g j v h D
   split at b
   .rename_i hb;simp only[ab]at b;subst b;have q:P.underlying T=S .bool:=by
     unfold aeE at hb;split at hb;.assumption
     simp at hb
    exact amY hF g hq q j v h
   simp only[aL]at b;obtain⟨ks,F,rfl⟩:=b;exact amX hF g hq F j v h
  simp only[ab]at b;subst b;exact aiQ hF g j v h D
 |unOp op T x =>simp only[compile,g,aL]at b;obtain⟨u,j,rfl⟩:=b;exact asU hF g j h
 |convert s d x =>
  simp only[compile,g]at b;split at b<;>(try simp only[reduceCtorEq,ab]at b);.rename_i k0 k u W hd j;subst b;simp only[ct]at h;split at h<;>simp only[ab,bm,reduceCtorEq]at h;rename_i k1 n L;obtain⟨_,rfl⟩:=h;exact amV hF g W hd j L
  rename_i e u W hd j;split at b<;>simp only[reduceCtorEq,ab]at b;rename_i he;subst b;exact amZ hF hS g W he hd j h
 |slice T x lo hi mx =>
  cases mx with
  |some m=>simp[compile,g]at b
  |none =>
  simp only[compile,g]at b;split at b<;>(try simp only[reduceCtorEq,ab]at b);.rename_i u R ad q j O M;subst b;exact aaV hF hS g q j O M h D
  .rename_i E u R ad q j O M;split at b<;>simp only[reduceCtorEq,ab]at b;rename_i t C;subst b;exact afi hF hS g q C j O M h D
  rename_i n E u q j O M;split at b<;>(try simp only[reduceCtorEq]at b);rename_i t C;split at b<;>simp only[reduceCtorEq,ab]at b;rename_i H;subst b;have Q:lo=Z:=by cases lo<;>simp[B1]at O |-
  have e2:hi=Z:=by cases hi<;>simp[B1]at M |-
  subst Q;subst e2;exact am0 hF hS g q C H.1 j h D
 |fieldAddr T x f =>simp only[compile,g]at b;split at b<;>(try simp only[reduceCtorEq]at b);rename_i fs u q j;split at b<;>(try simp only[reduceCtorEq]at b);rename_i fd hf;split at b<;>(try simp only[reduceCtorEq]at b);rename_i t C;split at b<;>simp only[reduceCtorEq,ab]at b;rename_i jl;subst b;exact amT hF (λid o ho=>⟨B,hS.obj id o ho⟩) g j q hf C jl h
 |indexAddr T x k =>
  simp only[compile,g]at b;split at b<;>(try simp only[reduceCtorEq]at b);.rename_i E u U q j F;split at b<;>simp only[reduceCtorEq,ab]at b;rename_i t C;subst b;exact amS hF hS g q C j F h D
  rename_i n E u U q j F;split at b<;>simp only[reduceCtorEq,ab]at b;rename_i t C;subst b;exact ajD hF hS g q C j F h D
 |index T x k =>simp only[compile,g]at b;split at b<;>simp only[reduceCtorEq,ab]at b;rename_i u U q j F;subst b;exact ajx hF hS g q j F h D
 |extract x k =>simp only[compile,g,aL]at b;obtain⟨u,j,rfl⟩:=b;simp only[ct]at h;split at h<;>(try simp only[reduceCtorEq]at h);rename_i xs L;split at h<;>simp only[ab,bm,reduceCtorEq]at h;rename_i z v;obtain⟨_,rfl⟩:=h;exact amU hF g j L v
 |makeSlice T l c =>simp only[compile,g]at b;split at b<;>(try simp only[reduceCtorEq]at b);split at b<;>(try simp only[reduceCtorEq]at b);split at b<;>(try simp only[reduceCtorEq]at b);split at b<;>(try simp only[reduceCtorEq]at b);simp only[aL]at b;obtain⟨zs,_,rfl⟩:=b;simp[ct]at h
 |lookup T m k ok =>simp only[compile,g]at b;split at b<;>(try simp only[reduceCtorEq]at b);rename_i K E m' U q hm F;split at b<;>simp only[reduceCtorEq,ab]at b;rename_i kd z Ft v;subst b;exact ajC hF hS g q hm F Ft v h D
 |mapUpdate T m k x =>simp only[compile,g]at b;split at b<;>(try simp only[reduceCtorEq]at b);simp only[aL]at b;obtain⟨kd,_,rfl⟩:=b;simp[ct]at h
 |makeMap T r =>
  cases r with
  |some r=>simp[compile,g]at b
  |none =>simp only[compile,g]at b;split at b<;>simp only[reduceCtorEq,ab]at b;subst b;simp[ct]at h
 |call c =>
  simp only[compile,g]at b;obtain⟨callee,A,argTypes⟩:=c;unfold ri at b;dsimp only at b;split at b
  .rename_i x T Q e2;have N:A=#[x]:=by cases A;simp_all
   have et:argTypes=#[T]:=by cases argTypes;simp_all
   subst N;subst et;split at b<;>simp only[reduceCtorEq,ab]at b;.rename_i u q j;subst b;exact ajw hF hS g q j h
   .rename_i E u q j;subst b;exact FP hF hS g q j h
   rename_i K E u q j;subst b;exact ajz hF hS g q j h
  .rename_i x z Q;have N:A=#[x,z]:=by cases A;simp_all
   subst N;split at b<;>simp only[reduceCtorEq,ab]at b;rename_i u X j v;subst b;exact ajB hF hS g j v h rfl
  .rename_i x z Q;have N:A=#[x,z]:=by cases A;simp_all
   subst N;split at b<;>simp only[reduceCtorEq,ab]at b;rename_i u X j v;subst b;exact ajA hF hS g j v h
  .split at b<;>(try simp only[reduceCtorEq]at b);split at b<;>(try simp only[reduceCtorEq]at b);split at b<;>(try simp only[reduceCtorEq]at b);split at b;.split at b<;>simp only[reduceCtorEq,ab]at b;subst b;simp[ct]at h
   split at b<;>(try simp only[reduceCtorEq]at b);split at b<;>simp only[reduceCtorEq,ab]at b;subst b;simp[ct]at h
  .split at b<;>(try simp only[reduceCtorEq]at b);split at b<;>(try simp only[reduceCtorEq]at b);split at b<;>(try simp only[reduceCtorEq]at b);split at b<;>(try simp only[reduceCtorEq]at b);simp only[aL]at b;obtain⟨zs,_,rfl⟩:=b;simp[ct]at h
  .split at b<;>(try simp only[reduceCtorEq]at b);split at b<;>(try simp only[reduceCtorEq]at b);simp only[aL]at b;obtain⟨zs,_,rfl⟩:=b;simp[ct]at h
  .simp only[aL]at b;obtain⟨zs,_,rfl⟩:=b;simp[ct]at h
  simp at b
 |makeFunc fn first am =>
  cases fn with
  |func f =>simp only[compile,g]at b;split at b<;>simp only[aL,reduceCtorEq]at b;rename_i h0;obtain⟨ys,HR,rfl⟩:=b;simp only[ct,ab,bm]at h;obtain⟨_,rfl⟩:=h;exact amW hF g h0 HR
  |_=>simp[compile,g]at b
 |_=>simp[compile,g]at b
theorem QL(b:compile P o=S i)(hF:FR w J μ fr a)(hS:l8 P B w0 w J μ){Q:Prop}{y:V}{N:aj}(h:eZ fr J i=S (Q,y,N))(A:Q):EG P o a B w0 w J μ y N:=by
 cases e:o.op with
 |move x =>simp only[compile,e,aL]at b;obtain⟨v,j,rfl⟩:=b;simp[eZ]at h
 |assign x =>simp only[compile,e,aL]at b;obtain⟨v,j,rfl⟩:=b;simp[eZ]at h
 |pick c x z =>simp only[compile,e]at b;split at b<;>simp only[ab,reduceCtorEq]at b;subst b;simp[eZ]at h
 |box T x =>simp only[compile,e,aL]at b;obtain⟨v,j,rfl⟩:=b;exact arR hF hS e j h A
 |alloc T =>simp only[compile,e]at b;split at b<;>(try simp only[reduceCtorEq]at b);rename_i t p;split at b<;>(try simp only[reduceCtorEq]at b);rename_i z q;simp only[aL]at b;obtain⟨zs,C,rfl⟩:=b;exact ais hF hS e p q C h
 |build T parts =>
  simp only[compile,e]at b;split at b<;>(try simp only[reduceCtorEq]at b);all_goals
   split at b<;>(try simp only[reduceCtorEq]at b);split at b<;>(try simp only[reduceCtorEq]at b);simp only[aL]at b;obtain⟨ps,L,rfl⟩:=b;simp[eZ]at h
 |buildSlice T len parts =>
  simp only[compile,e]at b;split at b<;>(try simp only[reduceCtorEq]at b);rename_i E u;split at b<;>(try simp only[reduceCtorEq]at b);rename_i t p;split at b<;>(try simp only[reduceCtorEq]at b);rename_i z q;split at b<;>(try simp only[reduceCtorEq]at b);rename_i g;simp only[aL]at b;obtain⟨xs,L,rfl⟩:=b;split at h;.exact amc hF hS e u p q g.1 g.2.1 g.2.2.1 g.2.2.2 L h A
  simp[eZ]at h
 |load T x =>simp only[compile,e]at b;split at b<;>simp only[ab,reduceCtorEq]at b<;>(subst b;simp[eZ]at h)
 |store T x z =>simp only[compile,e]at b;split at b<;>simp only[ab,reduceCtorEq]at b;rename_i v z' t j q p;subst b;exact aiq hF hS e p j q h A
 |nilCheck x =>simp only[compile,e,aL]at b;obtain⟨v,j,rfl⟩:=b;simp[eZ]at h
 |binOp op T x z yT =>
  simp only[compile,e]at b;split at b<;>(try simp only[reduceCtorEq]at b);split at b
  .split at b;.simp only[ab]at b;subst b;simp[eZ]at h
   split at b;.simp only[ab]at b;subst b;simp[eZ]at h
   simp only[aL]at b;obtain⟨ks,M,rfl⟩:=b;simp[eZ]at h
  simp only[ab]at b;subst b;simp[eZ]at h
 |unOp op T x =>simp only[compile,e,aL]at b;obtain⟨v,j,rfl⟩:=b;simp[eZ]at h
 |convert s d x =>
  simp only[compile,e]at b;split at b<;>(try simp only[reduceCtorEq,ab]at b);.subst b;simp[eZ]at h
  split at b<;>simp only[reduceCtorEq,ab]at b;subst b;simp[eZ]at h
 |slice T x lo hi W =>
  cases W with
  |some m=>simp[compile,e]at b
  |none =>
  simp only[compile,e]at b;split at b<;>(try simp only[reduceCtorEq,ab]at b);.subst b;simp[eZ]at h
  .split at b<;>simp only[reduceCtorEq,ab]at b;subst b;simp[eZ]at h
  split at b<;>(try simp only[reduceCtorEq]at b);split at b<;>simp only[reduceCtorEq,ab]at b;subst b;simp[eZ]at h
 |fieldAddr T x f =>simp only[compile,e]at b;split at b<;>(try simp only[reduceCtorEq]at b);split at b<;>(try simp only[reduceCtorEq]at b);split at b<;>(try simp only[reduceCtorEq]at b);split at b<;>simp only[reduceCtorEq,ab]at b;subst b;simp[eZ]at h
 |indexAddr T x k =>
  simp only[compile,e]at b;split at b<;>(try simp only[reduceCtorEq]at b);all_goals
   split at b<;>simp only[reduceCtorEq,ab]at b;subst b;simp[eZ]at h
 |index T x k =>simp only[compile,e]at b;split at b<;>simp only[reduceCtorEq,ab]at b;subst b;simp[eZ]at h
 |extract x k =>simp only[compile,e,aL]at b;obtain⟨v,j,rfl⟩:=b;simp[eZ]at h
 |makeSlice T l c =>simp only[compile,e]at b;split at b<;>(try simp only[reduceCtorEq]at b);rename_i E u;split at b<;>(try simp only[reduceCtorEq]at b);rename_i t p;split at b<;>(try simp only[reduceCtorEq]at b);rename_i z l' c' q hl Hr;split at b<;>(try simp only[reduceCtorEq]at b);rename_i g;simp only[aL]at b;obtain⟨zs,C,rfl⟩:=b;exact avi hF hS e u p q g.1 g.2 C hl Hr h A
 |lookup T m k ok =>simp only[compile,e]at b;split at b<;>(try simp only[reduceCtorEq]at b);split at b<;>simp only[reduceCtorEq,ab]at b;subst b;simp[eZ]at h
 |mapUpdate T m k x =>simp only[compile,e]at b;split at b<;>(try simp only[reduceCtorEq]at b);rename_i K E m' k' v u X M j;simp only[aL]at b;obtain⟨kd,Ft,rfl⟩:=b;exact amb hF hS e u X M j Ft h A
 |makeMap T r =>
  cases r with
  |some r=>simp[compile,e]at b
  |none =>simp only[compile,e]at b;split at b<;>simp only[reduceCtorEq,ab]at b;subst b;exact air hS hF e h
 |call c =>
  simp only[compile,e]at b;obtain⟨callee,n,argTypes⟩:=c;unfold ri at b;dsimp only at b;split at b;.split at b<;>simp only[reduceCtorEq,ab]at b<;>(subst b;simp[eZ]at h)
  .split at b<;>simp only[reduceCtorEq,ab]at b;subst b;simp[eZ]at h
  .split at b<;>simp only[reduceCtorEq,ab]at b;subst b;simp[eZ]at h
  .rename_i x z T U e1 e2;have I:n=#[x,z]:=by cases n;simp_all
   have H:argTypes=#[T,U]:=by cases argTypes;simp_all
   subst I;subst H;split at b<;>(try simp only[reduceCtorEq]at b);rename_i E v z' u j q;split at b<;>(try simp only[reduceCtorEq]at b);rename_i t p;split at b<;>(try simp only[reduceCtorEq]at b);rename_i R D;split at b;.rename_i F;subst F;split at b<;>simp only[reduceCtorEq,ab]at b;rename_i g;subst b;exact arS hS hF e u p D g.1 g.2 j q h A
   split at b<;>(try simp only[reduceCtorEq]at b);rename_i hU;split at b<;>simp only[reduceCtorEq,ab]at b;rename_i g;subst b;have C:R.cells.size=t.size:=by obtain⟨h1,_,h2⟩:=g;rw[h1];cases R<;>first|rfl|simp[SK]at h2
   exact amd hS hF e u hU p D g.1 g.2.1 C j q h A
  .rename_i x T e1 e2;have I:n=#[x]:=by cases n;simp_all
   have H:argTypes=#[T]:=by cases argTypes;simp_all
   subst I;subst H;split at b<;>(try simp only[reduceCtorEq]at b);rename_i E v u j;split at b<;>(try simp only[reduceCtorEq]at b);rename_i t p;split at b<;>(try simp only[reduceCtorEq]at b);rename_i z q;split at b<;>(try simp only[reduceCtorEq]at b);rename_i g;simp only[aL]at b;obtain⟨zs,C,rfl⟩:=b;exact arQ hF hS e u p q g.1 g.2 C j h A
  .split at b<;>(try simp only[reduceCtorEq]at b);split at b<;>(try simp only[reduceCtorEq]at b);simp only[aL]at b;obtain⟨zs,_,rfl⟩:=b;simp[eZ]at h
  .simp only[aL]at b;obtain⟨zs,_,rfl⟩:=b;simp[eZ]at h
  simp at b
 |makeFunc fn first O =>
  cases fn with
  |func f =>simp only[compile,e]at b;split at b<;>simp only[aL,reduceCtorEq]at b;obtain⟨ys,_,rfl⟩:=b;simp[eZ]at h
  |_=>simp[compile,e]at b
 |_=>simp[compile,e]at b
end
end Go.Pm
